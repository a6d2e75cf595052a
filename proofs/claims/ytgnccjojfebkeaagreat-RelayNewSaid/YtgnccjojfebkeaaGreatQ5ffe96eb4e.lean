/- How many notes of a site, what is wrong with a relay: by the document. -/
import Derived.Test.YtgnccjojfebkeaaGreatQ8c79696ad7
import Derived.Test.YtgnccjojfebkeaaGreatQ9fee5ace90
import Derived.Test.YtgnccjojfebkeaaGreatQa70fadfe36
import Derived.Test.YtgnccjojfebkeaaGreatQfc0f38224b
import Derived.Test.YtgnccjojfebkeaaGreatQ453a98ae2d
import Derived.Test.YtgnccjojfebkeaaGreatQ37a248829e
import Derived.Test.YtgnccjojfebkeaaGreatQ067801634e
import Derived.Deep.RegionHeld3
import Derived.Deep.RegionLaw
import Derived.Deep.Cut
set_option linter.unusedVariables false
set_option linter.unusedSimpArgs false
set_option maxRecDepth 100000
set_option maxHeartbeats 4000000
namespace Go.Proofs.YtgnccjojfebkeaaGreat
open Go Go.RowKit Go.BigFrame Cp
theorem Ve0 {n:Nat} (h:n≤1000):wrap64 ((n:Int)+1)=((n+1:Nat):Int):=by rw[IntWalk.wrap64_in _ oM];rfl
def Ve2 (l:List No) (n:No):Int:=if(Vea l n.site:Int)+1<n.number then 4 else if n.number=(Vea l n.site:Int)+1∧l.length=300 then 2 else 0
def Ve1 (l:List No) (n:No):Bool:=decide (n.number=(Vea l n.site:Int)+1) && decide (l.length≠300)
def Vg7 (l:List No) (n:No):List No:=if Ve1 l n=true then l++[n] else l
def Vgv (l:List No) (n:No) (b B:Nat) (w:World) (e:Ending) (w':World):Prop:=
 ∃u,e= .returned (.tuple #[.bool (Ve1 l n),.int .i64 (Ve2 l n)])∧w'.cell? ⟨b,0,none⟩=some u∧OSl RNo 4 48 B (fun j=>B≤j∧j≠b) w' u (Vg7 l n)∧∀a:World,Ext a w→a.heap.size≤b→a.heap.size≤B→Ext a w'
theorem Vg0 {b B:Nat} {v:Value} (hv:∀k,v.ownBlock=some k→k≠b) (h:(B≤b∧b≠b)∨some b=v.ownBlock):False:=by
 rcases h with h|h
 ·exact h.2 rfl
 ·exact hv b h.symm rfl
theorem Vgj {b k N:Nat} {v v':Value} (hv:∀k,v.ownBlock=some k→k≠b) (h:v'.ownBlock=v.ownBlock∨v'.ownBlock=some N) (hk:v'.ownBlock=some k) (hN:b<N):k≠b:=by
 rcases h with h|h
 ·exact hv k (h.symm.trans hk)
 ·rw[h] at hk;injection hk with hk;omega
theorem Vew {l:List No} {n:No} {b B:Nat} {er:Int} {w w':World} {u:Value} (hB:Ve1 l n=false) (hE:Ve2 l n=er) (hc:w'.cell? ⟨b,0,none⟩=some u) (ho:OSl RNo 4 48 B (fun j=>B≤j∧j≠b) w u l) (hx:Ext w w'):
  Vgv l n b B w (.returned (.tuple #[.bool false,.int .i64 er])) w':=by
 refine⟨u,by rw[hB,hE],hc,?_,fun a ha _ _=>ext_trans ha hx⟩;unfold Vg7;rw[hB];exact Qai gNo ho hx
theorem Vgx {F:Nat→Prop} {w:World} {b B:Nat} {u:Value} {cs:List Value} {l:List No} {n:No} (hc:w.cell? ⟨b,0,none⟩=some u) (hf:w.frozen? ⟨b,0,none⟩=false) (ho:OSl RNo 4 48 B (fun j=>B≤j∧j≠b) w u l) (hob:∀k,u.ownBlock=some k→k≠b)
  (hBw:B≤w.heap.size) (hn:RNo F w cs n) (hk:Qa0 n=0) (hl:l.length≤300):
  Calls Tryz.prog 98 #[.pointer (some ⟨b,0,none⟩),.agg cs.toArray] w (Vgv l n b B w):=by
 have HNU:=hH (fun(W:World) (hx:Ext w W)=>Vff ((Qaz gNo ho (G:=fun _=>True) (fun _ _ _=>trivial) (fun _ _=>trivial)).ext gNo hx) (show l.length≤1000 by omega));obtain⟨s1,s2,s3⟩:=Qja hk;have HOW:=hH (fun(W:World) (hx:Ext w W)=>Qo3 (gNo.ext hn hx) s1 s2 s3);have i1:I64 n.site:=by obtain⟨_,_,_,i,_⟩:=hn;exact i
 have HWF:=WalkArith.wf_i64 i1;have HO:=hH ho;have HOL:=hH (Qak ho);have hle:=Veo l n.site;obtain⟨v,x,rfl,_,_,h1,h2⟩:=hn;obtain⟨a1,n1,c1,rfl⟩:=h1.slice;obtain⟨a2,n2,c2,rfl⟩:=h2.slice;obtain⟨a0,n0,c0,rfl⟩:=Qab ho;obtain rfl:n0=l.length:=(Qa2 ho).1;have hbw:b<w.heap.size:=World.block_lt_of_cell? _ _ hc;have HOB:=hH hob;have hbn:¬b=w.heap.size:=oM;obtain⟨h,hh⟩:∃h:Nat,Vea l n.site=h:=⟨_,rfl⟩;have hh3:h≤300:=oM;clear hob ho h1 h2 s1 s2 s3 i1 hk hle;go_enter Tryz.func98,Tryz.ntmps98;go_wp2_with fail
 refine Qad (fun W1 eW1=> ?_);obtain⟨e0,e1,e2,e3⟩:=rR4 eW1 w.heap.size (.int .i64 n.site) (.int .i64 n.number) (.slice a1 n1 c1) (.slice a2 n2 c2);have e4:=rL eW1 ⟨b,0,none⟩ (.slice a0 l.length c0);have ef:W1.frozen? ⟨b,0,none⟩=false:=by rw[eW1];go_simp
 have hw1:=xE w eW1;have z1:w.heap.size<W1.heap.size:=World.block_lt_of_cell? _ _ e0;have z2:b<W1.heap.size:=oM;clear eW1 hc hf;go_cut [6] from 7 (fun s wx=>s= .int .i64 ((h+1:Nat):Int)∧Hid (Ext W1 wx))
 case first=>
  go_region_held3 (fun W=>W.cell? ⟨w.heap.size,0,none⟩=some (.int .i64 n.site)∧W.cell? ⟨b,0,none⟩=some (.slice a0 l.length c0))
   (first|(refine⟨?_,?_⟩<;>(with_reducible assumption))|(refine⟨?_,?_⟩<;>(rw[hx2.cells _ _ ltA];first|(with_reducible assumption)|go_simp))|go_keep)
   (first|(go_at_call 171;go_must ((with_reducible refine(HNU.o _ (ext_trans hw1 Qac)).mono ?_);rintro e w2 ⟨b2,D,rfl,_,hown,hhas,hx2⟩;have hz2:=hx2.size;(try simp at hz2);obtain⟨c,hrun,hat,_⟩:=hown.lookup_int Vgd Tryz.underlying199 Tryz.underlying3 (Vfq _) (Go.Maps.keyOf_int_mk Tryz.underlying3 HWF))))
  all_goals (go_wp2_with fail;go_meet)
  all_goals
   refine⟨?_,hH (ext_trans Qac hx2)⟩;obtain⟨hce,_⟩:=Vec (n:=n) hhas hat (show l.length≤1000 by omega);rw[hce,hh];first
    |rw[Ve0 (show h≤1000 by omega)]
    |rw[IntWalk.i64_left,Ve0 (show h≤1000 by omega)]
 case rest=>
  obtain⟨rfl,HXC⟩:=hcut;obtain⟨y0,y1,y2,y3⟩:=tT4 HXC.o z1 e0 e1 e2 e3;have y4:=(HXC.o.cells _ 0 z2).trans e4;have yf:=(HXC.o.frz _ 0 z2).trans ef;have HXW:=hH (ext_trans hw1 HXC.o);have hzc:=HXC.o.size;have z3:w.heap.size<wc.heap.size:=oM;have z4:b<wc.heap.size:=oM;clear e0 e1 e2 e3 e4 ef;have HN:=hH hh;by_cases hq1:n.number<((h:Int)+1)
  ·have t1:decide (n.number<((h:Int)+1))=true:=decide_eq_true hq1;have hB:Ve1 l n=false:=by unfold Ve1;rw[hh,decide_eq_false oM];rfl
   have hE:Ve2 l n=0:=by unfold Ve2;rw[hh,if_neg oM,if_neg oM]
   have HB:=hH hB;have HE:=hH hE;clear hB hE hh hq1;go_wp2_with fail
   go_ret2
   exact Vew HB.o HE.o y4 HO.o HXW.o
  ·have t1:decide (n.number<((h:Int)+1))=false:=decide_eq_false hq1;by_cases hq2:((h:Int)+1)<n.number
   ·have t2:decide (((h:Int)+1)<n.number)=true:=decide_eq_true hq2;have hB:Ve1 l n=false:=by unfold Ve1;rw[hh,decide_eq_false oM];rfl
    have hE:Ve2 l n=4:=by unfold Ve2;rw[hh,if_pos oM]
    have HB:=hH hB;have HE:=hH hE;clear hB hE hh hq1 hq2;go_wp2_with fail
    go_ret2
    exact Vew HB.o HE.o y4 HO.o HXW.o
   ·have t2:decide (((h:Int)+1)<n.number)=false:=decide_eq_false hq2;by_cases hq3:l.length=300
    ·have t3:((l.length:Int)==300)=true:=by rw[hq3];rfl
     have hB:Ve1 l n=false:=by unfold Ve1;rw[hq3];simp
     have hE:Ve2 l n=2:=by unfold Ve2;rw[hh,if_neg oM,if_pos ⟨oM,hq3⟩]
     have HB:=hH hB;have HE:=hH hE;clear hB hE hh hq1 hq2 hq3;go_wp2_with fail
     go_ret2
     exact Vew HB.o HE.o y4 HO.o HXW.o
    ·have t3:((l.length:Int)==300)=false:=by
      rw[beq_eq_false_iff_ne];omega
     have hB:Ve1 l n=true:=by unfold Ve1;rw[hh,decide_eq_true oM,decide_eq_true hq3];rfl
     have hE:Ve2 l n=0:=by unfold Ve2;rw[hh,if_neg oM,if_neg (fun e=>hq3 e.2)]
     have HB:=hH hB;have HE:=hH hE;clear hB hE hh hq1 hq2 hq3;obtain⟨i0,hi0,hz0,hz1',hz2⟩:=info_parts Qfg;have HJ:=hH hi0;have HZ0:=hH hz0;have HZ1:=hH hz1';have HZ2:=hH hz2;clear hi0 hz0 hz1' hz2;go_upto_region 8 with fail
     refine Qad (fun W5 eW5=> ?_);obtain⟨e0,e1,e2,e3⟩:=rR4 eW5 w.heap.size (.int .i64 n.site) (.int .i64 n.number) (.slice a1 n1 c1) (.slice a2 n2 c2);have e4:=rL eW5 ⟨b,0,none⟩ (.slice a0 l.length c0);have ef:W5.frozen? ⟨b,0,none⟩=false:=by rw[eW5];go_simp
     have hw5:=xE w eW5 (ext_trans HXW.o Qac);have z5:w.heap.size<W5.heap.size:=World.block_lt_of_cell? _ _ e0;have z6:b<W5.heap.size:=oM;clear eW5 y0 y1 y2 y3 y4 yf HXC HXW;have hl1:l.length≤1000:=oM;have HL1:=hH hl1;have hl3:=hl;clear hl1 t1 t2 t3;generalize n.site=st at *;generalize n.number=nu at *;go_cut [] from 33 (fun wx=>∃u,wx.cell? ⟨b,0,none⟩=some u∧Hid (OSl RNo 4 48 B (fun j=>B≤j∧j≠b) wx u (l++[n]))∧Hid (∀a:World,Ext a w→a.heap.size≤b→a.heap.size≤B→Ext a wx))
     case first=>
      go_region_law (first
       |(go_simp;go_at_call 158;go_must ((with_reducible refine(HOW.o _ (ext_trans hw5 Qac)).mono ?_);rintro e w3 ⟨cs3,rfl,hn3,hx3⟩;have HN3:=hH hn3;obtain⟨v3,u3,rfl,_,_,hv3,hu3⟩:=hn3;obtain⟨a3,n3,c3,rfl⟩:=hv3.slice;obtain⟨a4,n4,c4,rfl⟩:=hu3.slice;clear hv3 hu3;have hz3:=hx3.size;(try simp at hz3);have hb3:=zL hx3 w.heap.size;have hb4:=zL hx3 b;have x4:=cL hx3 b 0 (.slice a0 l.length c0);have xf:=fL hx3 b 0;have HX3:=hH (show Ext w w3 from ext_trans (ext_trans hw5 Qac) hx3)))
       |((refine Qa7 gNo rfl (.tmp 37) (.tmp 40) 23 rfl B 48 i0 _ 4 64 Tryz.underlying23 HJ.o HZ0.o HZ1.o HZ2.o rfl oM (F:=fun j=>B≤j∧j≠b) (G:=fun j=>w.heap.size≤j) (.slice a0 l.length c0) l rfl (Qai gNo HO.o (ext_trans HX3.o Qac)) (.slice (some ⟨w3.heap.size,0,none⟩) 1 1) [n] rfl (Qlh rfl (Qis asG asG asG asG) (gNo.ext (gNo.more (fun j hj _=>(show w.heap.size≤j by first|omega|(simp at hj;omega))) HN3.o) Qac) (Nat.le_of_lt hb3) ltA (Nat.le_refl _) mO) Qei (fun j hj _=>⟨⟨Nat.le_trans hBw hj,fun e=>by have hj':w.heap.size≤j:=hj;omega⟩,fun e=>by have:=(HOL.o j e.symm).2;have hj':w.heap.size≤j:=hj;omega⟩) (Ql7 HL1.o) (Qj1 HL1.o) ltA ?_);intro v9 w9 hown9 hg9 hat9;obtain⟨a9,n9,c9,rfl⟩:=Qab hown9;have hgb:=hg9.block b ltA (fun e=>HOB.o b e.symm rfl);have HV9:=hH (show∀k,(Value.slice a9 n9 c9).ownBlock=some k→k≠b from fun k hk=>Vgj HOB.o hat9 hk (Nat.lt_of_lt_of_le hb4 (show Ext w3 _ from Qac).size));have s4:w9.cell? ⟨b,0,none⟩=some (.slice a0 l.length c0):=(World.cell?_of_block (a:=⟨b,0,none⟩) hgb).trans gS;have sf:w9.frozen? ⟨b,0,none⟩=false:=(World.frozen?_of_block (a:=⟨b,0,none⟩) hgb).trans gS))
      all_goals (go_wp2_with fail;go_meet)
      all_goals
       refine⟨_,World.cell?_setCell_same _ _ _ s4,hH (Qa8 gNo hown9 (Qae Qag (fun _ h=>Vg0 HV9.o h) _)),hH (fun a ha hab haB=>ext_set (Qao (ext_trans ha (ext_trans HX3.o Qac)) hg9 (fun j hj=>by have:=(HOL.o j hj).1;omega)) hab _)⟩
     case rest=>
      obtain⟨u,hc,ho,hx⟩:=hcut;go_wp2_with fail
      go_ret2
      refine⟨u,by rw[HB.o,HE.o];rfl,hc,?_,hx.out⟩;unfold Vg7;rw[HB.o];exact ho.out
theorem Vf1 {B base:Nat} {w:World} {v:Value} {l:List No} (h:OSl RNo 4 48 base (fun j=>base≤j) w v l) (hb:B≤base):OSl RNo 4 48 B (fun j=>B≤j∧j≠w.heap.size) w v l:=
 Qbt gNo (Qcx hb h) (fun k hk hlt _=>⟨Nat.le_trans hb hk,Nat.ne_of_lt hlt⟩)
theorem Vf2 {l:List No} {n:No} (h:¬Vd7 l=0):Vee l n=Vd7 l:=by unfold Vee;rw[if_pos h]
theorem Vfn {l:List No} {n:No} (h:Vd7 l=0) (k:¬Qa0 n=0):Vee l n=Qa0 n:=by unfold Vee;rw[if_neg (by simpa using h),if_pos k]
theorem Vfa {l:List No} {n:No} (h:Vd7 l=0) (k:Qa0 n=0):Vee l n=Ve2 l n:=by unfold Vee Ve2;rw[if_neg (by simpa using h),if_neg (by simpa using k)]
theorem Vgk {l:List No} {n:No} (h:Vd7 l=0) (k:Qa0 n=0) (e:Ve2 l n=0):Vel l n=Ve1 l n∧Vek l n=Vg7 l n:=by
 have e':=(Vfa h k).trans e;have hb:Vel l n=Ve1 l n:=by
  unfold Vel Ve1;rw[decide_eq_true e'];by_cases hq:n.number=(Vea l n.site:Int)+1
  ·rw[decide_eq_true hq];unfold Ve2 at e;rw[if_neg oM] at e;by_cases h3:l.length=300
   ·rw[if_pos ⟨hq,h3⟩] at e;cases e
   ·rw[decide_eq_true h3]
  ·rw[decide_eq_false hq];rfl
 refine⟨hb,?_⟩;unfold Vg7;cases hc:Ve1 l n with
 |true=>rw[if_pos rfl];exact(Veg e').2.2.2.1 (hb.trans hc)
 |false=>rw[if_neg sI];exact(Veg e').2.2.2.2 (hb.trans hc)
def Vg8 (er:Int) (l:List No) (n:No) (b B:Nat) (w:World) (e:Ending) (w':World):Prop:=
 ∃u,e= .returned (.tuple #[.bool (Ve1 l n),.int .i64 er])∧w'.cell? ⟨b,0,none⟩=some u∧OSl RNo 4 48 B (fun j=>B≤j∧j≠b) w' u (Vg7 l n)∧∀a:World,Ext a w→a.heap.size≤b→a.heap.size≤B→Ext a w'
theorem Vgc {er:Int} {l:List No} {n:No} {b B:Nat} {w:World} {f:FuncId} {args:Array Value} (he:Ve2 l n=er) (h:Calls Tryz.prog f args w (Vgv l n b B w)):Calls Tryz.prog f args w (Vg8 er l n b B w):=by
 subst he;exact h
def Vfs (l:List No) (n:No) (w:World) (e:Ending) (w':World):Prop:=
 ∃u,e= .returned (.tuple #[.agg #[u],.bool (Vel l n),.int .i64 (Vee l n)])∧RSl RNo 4 (fun j=>w.heap.size≤j) w' u (Vek l n)∧Ext w w'
theorem Veh {l:List No} {n:No} {er:Int} {w w':World} (h:Vee l n=er) (hne:¬er=0) (hx:Ext w w'):Vfs l n w (.returned (.tuple #[.agg #[.slice none 0 0],.bool false,.int .i64 er])) w':=by
 obtain⟨h1,h2⟩:=Vgl (l:=l) (n:=n) (by rw[h];exact hne);exact⟨_,by rw[h2,h],by rw[h1];exact RSl.nil_ (Nat.zero_le _),hx⟩
theorem Vfj {p:Prop} (h:p:=by
 go_enter Tryz.func39,Tryz.ntmps39;go_wp2_with (first
  |(go_at_call 70;go_must ((with_reducible refine(HCR.o _ Qac).mono ?_);rintro e w3 ⟨rfl,hx3⟩;have hz3:=hx3.size;(try simp at hz3);have hl3:=zL hx3 (w.heap.size+1+1);have hm3:=zL hx3 (w.heap.size+1);have hn3:=zL hx3 w.heap.size;have rb0:=cL hx3 (w.heap.size) 0 (.slice a0 n0 c0);obtain⟨rb1,rb2,rb3,rb4⟩:=cC4 hx3 (w.heap.size+1) (.int .i64 n.site) (.int .i64 n.number) (.slice a1 n1 c1) (.slice a2 n2 c2);have r2:=cL hx3 (w.heap.size+1+1) 0 (.slice none 0 0);have rf:=fL hx3 (w.heap.size+1+1) 0;have HX3:=xY w hx3))
  |(go_at_call 74;go_must ((with_reducible refine(HCN.o _ (ext_trans HX3.o Qac)).mono ?_);rintro e w4 ⟨rfl,hx4⟩;have hz4:=hx4.size;(try simp at hz4);have hl4:=zL hx4 (w.heap.size+1+1);have hm4:=zL hx4 (w.heap.size+1);have hn4:=zL hx4 w.heap.size;have sb0:=cL hx4 (w.heap.size) 0 (.slice a0 n0 c0);obtain⟨sb1,sb2,sb3,sb4⟩:=cC4 hx4 (w.heap.size+1) (.int .i64 n.site) (.int .i64 n.number) (.slice a1 n1 c1) (.slice a2 n2 c2);have s2:=cL hx4 (w.heap.size+1+1) 0 (.slice none 0 0);have sf:=fL hx4 (w.heap.size+1+1) 0;have HX4:=xX HX3 hx4)))
 first
 |(
   clear zqa;have hs0:(w3.setCell ⟨w.heap.size+1+1,0,none⟩ (.slice none 0 0)).cell? ⟨w.heap.size+1+1,0,none⟩=some (.slice none 0 0):=World.cell?_setCell_same _ _ _ r2;refine bodyPost_ret (v:= .tuple #[.agg #[.slice none 0 0],.bool false,.int .i64 er]) (by simp[results,Tryz.results39,go_sem,hs0]) rfl (Veh HE.o HNE.o (ext_set HX3.o (by show w.heap.size≤w.heap.size+1+1;omega) _))
   done)
 |(
   clear zqb;have hs0:(w4.setCell ⟨w.heap.size+1+1,0,none⟩ (.slice none 0 0)).cell? ⟨w.heap.size+1+1,0,none⟩=some (.slice none 0 0):=World.cell?_setCell_same _ _ _ s2;refine bodyPost_ret (v:= .tuple #[.agg #[.slice none 0 0],.bool false,.int .i64 er]) (by simp[results,Tryz.results39,go_sem,hs0]) rfl (Veh HE.o HNE.o (ext_set (ext_trans HX3.o (ext_trans Qac hx4)) (by show w.heap.size≤w.heap.size+1+1;omega) _))
   done)):p:=h
theorem Vey {F G:Nat→Prop} {w:World} {v:Value} {cs:List Value} {l:List No} {n:No} (h:RSl RNo 4 F w v l) (k:RNo G w cs n):
  Calls Tryz.prog 39 #[.agg #[v],.agg cs.toArray] w (Vfs l n w):=by
 have HCR:=hH (fun(W:World) (hx:Ext w W)=>Vd9 (h.ext gNo hx));have HCN:=hH (fun(W:World) (hx:Ext w W)=>Qjl (gNo.ext k hx));have HOR:=hH (fun h1 h2 (W:World) (hx:Ext w W)=>Ve9 (h.ext gNo hx) h1 h2);have HNN:=hH (fun(W:World) (hx:Ext w W)=>gNo.ext k hx);obtain⟨a0,n0,c0,rfl⟩:=h.slice;obtain⟨v',x',rfl,_,_,k1,k2⟩:=k;obtain⟨a1,n1,c1,rfl⟩:=k1.slice;obtain⟨a2,n2,c2,rfl⟩:=k2.slice;clear h k1 k2;by_cases hc1:Vd7 l=0
 ·by_cases hc2:Qa0 n=0
  ·obtain⟨hl3,hll⟩:=checkLog_ok.1 hc1;have HOW:=hH (HOR.o oM (fun m hm=>by obtain⟨i,hi⟩:=List.getElem?_of_mem hm;exact(hll i m hi).1));have HK:=hH hc2;have HPE:=hH (Vfa hc1 hc2);have HPA:=hH (Vgk hc1 hc2);rw[hc1] at HCR;rw[hc2] at HCN;have HL3:=hH hl3;have HAE:=hH (fun(F:Nat→Prop) (W:World) (b B:Nat) (u:Value) (cs:List Value) h1 h2 h3 h4 h5 h6=>Vgc rfl (Vgx (F:=F) (w:=W) (b:=b) (B:=B) (u:=u) (cs:=cs) (l:=l) (n:=n) h1 h2 h3 h4 h5 h6 hc2 hl3));clear hc1 hc2 hl3 hll HOR;go_enter Tryz.func39,Tryz.ntmps39;go_upto_region 1 with fail
   refine Qad (fun W0 eW0=> ?_);have e0:=rL eW0 ⟨w.heap.size,0,none⟩ (.slice a0 n0 c0);obtain⟨e1,e2,e3,e4⟩:=rR4 eW0 (w.heap.size+1) (.int .i64 n.site) (.int .i64 n.number) (.slice a1 n1 c1) (.slice a2 n2 c2);have e5:=rL eW0 ⟨w.heap.size+1+1,0,none⟩ (.slice none 0 0);have ef:W0.frozen? ⟨w.heap.size+1+1,0,none⟩=false:=by rw[eW0];go_simp
   have hw0:=xE w eW0;have hs0:W0.heap.size=w.heap.size+1+1+1:=by rw[eW0];simp
   clear eW0;by_cases hA:Ve2 l n=0
   ·obtain⟨hb,hv⟩:=HPA.o hA;have HB:=hH hb;have HV:=hH hv;have HE:=hH (HPE.o.trans hA);rw[hA] at HAE;clear hA hb hv;go_wp2_with (first|(go_at_call 70;go_must ((with_reducible refine(HCR.o _ (ext_trans hw0 Qac)).mono ?_);rintro e w3 ⟨rfl,hx3⟩;have hz3:=hx3.size;(try simp at hz3);have hl3:=zL hx3 (w.heap.size+1+1);have hm3:=zL hx3 (w.heap.size+1);have hn3:=zL hx3 w.heap.size;have rb0:=cL hx3 (w.heap.size) 0 (.slice a0 n0 c0);obtain⟨rb1,rb2,rb3,rb4⟩:=cC4 hx3 (w.heap.size+1) (.int .i64 n.site) (.int .i64 n.number) (.slice a1 n1 c1) (.slice a2 n2 c2);have r2:=cL hx3 (w.heap.size+1+1) 0 (.slice none 0 0);have rf:=fL hx3 (w.heap.size+1+1) 0;have HX3:=xY W0 hx3))|(go_at_call 74;go_must ((with_reducible refine(HCN.o _ (ext_trans hw0 (ext_trans HX3.o Qac))).mono ?_);rintro e w4 ⟨rfl,hx4⟩;have hz4:=hx4.size;(try simp at hz4);have hl4:=zL hx4 (w.heap.size+1+1);have hm4:=zL hx4 (w.heap.size+1);have hn4:=zL hx4 w.heap.size;have sb0:=cL hx4 (w.heap.size) 0 (.slice a0 n0 c0);obtain⟨sb1,sb2,sb3,sb4⟩:=cC4 hx4 (w.heap.size+1) (.int .i64 n.site) (.int .i64 n.number) (.slice a1 n1 c1) (.slice a2 n2 c2);have s2:=cL hx4 (w.heap.size+1+1) 0 (.slice none 0 0);have sf:=fL hx4 (w.heap.size+1+1) 0;have HX4:=xX HX3 hx4))|(go_at_call 97;go_must ((with_reducible refine(HOW.o _ (ext_trans hw0 (ext_trans HX4.o Qac))).mono ?_);rintro e w5 ⟨u5,rfl,ho5,hx5⟩;obtain⟨a5,n5,c5,rfl⟩:=Qab ho5;have hz5:=hx5.size;(try simp at hz5);have hl5:=zL hx5 (w.heap.size+1+1);have hm5:=zL hx5 (w.heap.size+1);have hn5:=zL hx5 w.heap.size;have tb0:=cL hx5 (w.heap.size) 0 (.slice a0 n0 c0);obtain⟨tb1,tb2,tb3,tb4⟩:=cC4 hx5 (w.heap.size+1) (.int .i64 n.site) (.int .i64 n.number) (.slice a1 n1 c1) (.slice a2 n2 c2);have t2:=cL hx5 (w.heap.size+1+1) 0 (.slice none 0 0);have tf:=fL hx5 (w.heap.size+1+1) 0;have HX5:=xX HX4 hx5;have HU5:=hH (Vf1 ho5 (show w.heap.size+1+1+1≤_ by first|omega|(simp<;>omega)));have HB5:=hH (fun k (hk:(Value.slice a5 n5 c5).ownBlock=some k)=>Nat.ne_of_lt (Qak ho5 k hk).2);clear ho5))|(go_at_call 98;go_must ((with_reducible refine(HAE.o _ _ w5.heap.size (w.heap.size+1+1+1) _ _ gS gS (Qai gNo HU5.o Qac) HB5.o ltA (HNN.o _ (ext_trans hw0 (ext_trans HX5.o Qac)))).mono ?_);rintro e w6 ⟨u6,rfl,hc6,ho6,hx6⟩;obtain⟨a6,n6,c6,rfl⟩:=Qab ho6;have HO6:=hH ho6;have HX6:=hH (hx6 W0 (ext_trans HX5.o Qac) oM oM);have hl6:w.heap.size+1+1<W0.heap.size:=oM;have q2:=(HX6.o.cells (w.heap.size+1+1) 0 hl6).trans (by with_reducible assumption);have qf:=(HX6.o.frz (w.heap.size+1+1) 0 hl6).trans (by with_reducible assumption);have hl7:w.heap.size+1+1<w6.heap.size:=World.block_lt_of_cell? _ _ q2;clear ho6 hx6)))
    have hs1:(w6.setCell ⟨w.heap.size+1+1,0,none⟩ (.slice a6 n6 c6)).cell? ⟨w.heap.size+1+1,0,none⟩=some (.slice a6 n6 c6):=World.cell?_setCell_same _ _ _ q2;refine bodyPost_ret (v:= .tuple #[.agg #[.slice a6 n6 c6],.bool (Ve1 l n),.int .i64 0]) (by simp[results,Tryz.results39,go_sem,hs1]) rfl ⟨_,by rw[HB.o,HE.o],?_,?_⟩
    ·rw[HV.o];refine RSl.more gNo (fun j hj _=> ?_) (RSl.keep gNo (F:=fun j=>w.heap.size+1+1+1≤j) (Qae Qag (by intro _ h;exact Nat.not_succ_le_self _ h) _) (Qaz gNo HO6.o (fun _ h _=>h.1) (fun _ h=>h)));have h':w.heap.size+1+1+1≤j:=hj
     show w.heap.size≤j
     omega
    ·exact ext_set (ext_trans hw0 HX6.o) (by show w.heap.size≤w.heap.size+1+1;omega) _
   ·have HE:=hH HPE.o;have HNE:=hH hA;have t1:(Ve2 l n !=0)=true:=by simpa using hA
    clear hA HPA;generalize Ve2 l n=er at *;generalize Ve1 l n=bb at *;go_wp2_with (first|(go_at_call 70;go_must ((with_reducible refine(HCR.o _ (ext_trans hw0 Qac)).mono ?_);rintro e w3 ⟨rfl,hx3⟩;have hz3:=hx3.size;(try simp at hz3);have hl3:=zL hx3 (w.heap.size+1+1);have hm3:=zL hx3 (w.heap.size+1);have hn3:=zL hx3 w.heap.size;have rb0:=cL hx3 (w.heap.size) 0 (.slice a0 n0 c0);obtain⟨rb1,rb2,rb3,rb4⟩:=cC4 hx3 (w.heap.size+1) (.int .i64 n.site) (.int .i64 n.number) (.slice a1 n1 c1) (.slice a2 n2 c2);have r2:=cL hx3 (w.heap.size+1+1) 0 (.slice none 0 0);have rf:=fL hx3 (w.heap.size+1+1) 0;have HX3:=xY W0 hx3))|(go_at_call 74;go_must ((with_reducible refine(HCN.o _ (ext_trans hw0 (ext_trans HX3.o Qac))).mono ?_);rintro e w4 ⟨rfl,hx4⟩;have hz4:=hx4.size;(try simp at hz4);have hl4:=zL hx4 (w.heap.size+1+1);have hm4:=zL hx4 (w.heap.size+1);have hn4:=zL hx4 w.heap.size;have sb0:=cL hx4 (w.heap.size) 0 (.slice a0 n0 c0);obtain⟨sb1,sb2,sb3,sb4⟩:=cC4 hx4 (w.heap.size+1) (.int .i64 n.site) (.int .i64 n.number) (.slice a1 n1 c1) (.slice a2 n2 c2);have s2:=cL hx4 (w.heap.size+1+1) 0 (.slice none 0 0);have sf:=fL hx4 (w.heap.size+1+1) 0;have HX4:=xX HX3 hx4))|(go_at_call 97;go_must ((with_reducible refine(HOW.o _ (ext_trans hw0 (ext_trans HX4.o Qac))).mono ?_);rintro e w5 ⟨u5,rfl,ho5,hx5⟩;obtain⟨a5,n5,c5,rfl⟩:=Qab ho5;have hz5:=hx5.size;(try simp at hz5);have hl5:=zL hx5 (w.heap.size+1+1);have hm5:=zL hx5 (w.heap.size+1);have hn5:=zL hx5 w.heap.size;have tb0:=cL hx5 (w.heap.size) 0 (.slice a0 n0 c0);obtain⟨tb1,tb2,tb3,tb4⟩:=cC4 hx5 (w.heap.size+1) (.int .i64 n.site) (.int .i64 n.number) (.slice a1 n1 c1) (.slice a2 n2 c2);have t2:=cL hx5 (w.heap.size+1+1) 0 (.slice none 0 0);have tf:=fL hx5 (w.heap.size+1+1) 0;have HX5:=xX HX4 hx5;have HU5:=hH (Vf1 ho5 (show w.heap.size+1+1+1≤_ by first|omega|(simp<;>omega)));have HB5:=hH (fun k (hk:(Value.slice a5 n5 c5).ownBlock=some k)=>Nat.ne_of_lt (Qak ho5 k hk).2);clear ho5))|(go_at_call 98;go_must ((with_reducible refine(HAE.o _ _ w5.heap.size (w.heap.size+1+1+1) _ _ gS gS (Qai gNo HU5.o Qac) HB5.o ltA (HNN.o _ (ext_trans hw0 (ext_trans HX5.o Qac)))).mono ?_);rintro e w6 ⟨u6,rfl,hc6,ho6,hx6⟩;obtain⟨a6,n6,c6,rfl⟩:=Qab ho6;have HO6:=hH ho6;have HX6:=hH (hx6 W0 (ext_trans HX5.o Qac) oM oM);have hl6:w.heap.size+1+1<W0.heap.size:=oM;have q2:=(HX6.o.cells (w.heap.size+1+1) 0 hl6).trans (by with_reducible assumption);have qf:=(HX6.o.frz (w.heap.size+1+1) 0 hl6).trans (by with_reducible assumption);have hl7:w.heap.size+1+1<w6.heap.size:=World.block_lt_of_cell? _ _ q2;clear ho6 hx6)))
    have hs1:(w6.setCell ⟨w.heap.size+1+1,0,none⟩ (.slice none 0 0)).cell? ⟨w.heap.size+1+1,0,none⟩=some (.slice none 0 0):=World.cell?_setCell_same _ _ _ q2;refine bodyPost_ret (v:= .tuple #[.agg #[.slice none 0 0],.bool false,.int .i64 er]) (by simp[results,Tryz.results39,go_sem,hs1]) rfl (Veh HE.o HNE.o (ext_set (ext_trans hw0 HX6.o) (by show w.heap.size≤w.heap.size+1+1;omega) _))
  ·have e:=Vfn hc1 hc2;rw[hc1] at HCR;have HE:=hH e;have HNE:=hH hc2;have t1:(Qa0 n !=0)=true:=by simpa using hc2
   clear e hc1 hc2 HOR;generalize Qa0 n=er at *;have zqb:=trivial;exact Vfj
 ·have e:=Vf2 (n:=n) hc1;have HE:=hH e;have HNE:=hH hc1;have t1:(Vd7 l !=0)=true:=by simpa using hc1
  have t2:(Vd7 l==0)=false:=by simpa using hc1
  clear e hc1 HOR;generalize Vd7 l=er at *;have zqa:=trivial;exact Vfj
end Go.Proofs.YtgnccjojfebkeaaGreat
