/- A script run in a world. -/
import Derived.Test.YtgnccjojfebkeaaGreatQ14295164fe
import Derived.Test.YtgnccjojfebkeaaGreatQff6e536ca3
import Derived.Test.YtgnccjojfebkeaaGreatQ3b8532dffc
import Derived.Test.YtgnccjojfebkeaaGreatQ530d01bf6a
import Derived.Test.YtgnccjojfebkeaaGreatQ7635b71608
import Derived.Test.YtgnccjojfebkeaaGreatQd02bb5fa7b
import Derived.Test.YtgnccjojfebkeaaGreatQ28838248a8
import Derived.Test.YtgnccjojfebkeaaGreatQ453a98ae2d
import Derived.Deep.RegionLaw
import Derived.Deep.DeepCutAuto
set_option linter.unusedVariables false
set_option linter.unusedSimpArgs false
set_option maxRecDepth 100000
set_option maxHeartbeats 40000000
namespace Go.Proofs.YtgnccjojfebkeaaGreat
open Go Go.RowKit Go.BigFrame Cp
def RWw (F:Nat→Prop) (w:World) (cs:List Value) (x:Wd):Prop:=∃v u,cs=[v,u]∧RWd F w v u x
def RHp (F:Nat→Prop) (w:World) (cs:List Value) (h:Hap):Prop:=cs=[.int .i64 h.kind,.int .i64 h.who,.int .i64 h.at_,.int .i64 h.many,.string h.text,.bool h.lost]∧(I64 h.kind∧I64 h.who∧I64 h.at_∧I64 h.many)
theorem Vld {F:Nat→Prop} {w:World} {h:Hap} (hi:I64 h.kind∧I64 h.who∧I64 h.at_∧I64 h.many):RHp F w [.int .i64 h.kind,.int .i64 h.who,.int .i64 h.at_,.int .i64 h.many,.string h.text,.bool h.lost] h:=⟨rfl,hi⟩
theorem gHp:Cp.Good RHp:=⟨fun _ h=>h,fun _ h=>h⟩
theorem Vki {F:Nat→Prop} {w:World} {a:Option Addr} {n cap:Nat} {q:List Hap} (h:RSl RHp 6 F w (.slice a n cap) q) {i:Nat} (hi:i<n):
  ∃b o h,a=some ⟨b,o,none⟩∧b<w.heap.size∧q[i]?=some h∧w.cell? ⟨b,o+i * 6,none⟩=some (.int .i64 h.kind)∧w.cell? ⟨b,o+i * 6+1,none⟩=some (.int .i64 h.who)∧w.cell? ⟨b,o+i * 6+2,none⟩=some (.int .i64 h.at_)∧w.cell? ⟨b,o+i * 6+3,none⟩=some (.int .i64 h.many)∧w.cell? ⟨b,o+i * 6+4,none⟩=some (.string h.text)∧w.cell? ⟨b,o+i * 6+5,none⟩=some (.bool h.lost):=by
 obtain⟨b,o,c,cs,e1,e2,e3,_,e4,rfl,_⟩:=h.at_ hi;exact⟨b,o,c,e1,e2,e3,by simpa using e4 0 _ rfl,by simpa [Nat.add_assoc] using e4 1 _ rfl,by simpa [Nat.add_assoc] using e4 2 _ rfl,by simpa [Nat.add_assoc] using e4 3 _ rfl,by simpa [Nat.add_assoc] using e4 4 _ rfl,by simpa [Nat.add_assoc] using e4 5 _ rfl⟩
theorem Vgx {x:Wd} {l:List Hap} {k:Nat} {h:Hap} (hk:l[k]?=some h):Vhx x (l.drop k)=(if Vfa x.clients.length h≠0 then Vfa x.clients.length h else Vhx (doW x h) (l.drop (k+1)))∧Vjf x (l.drop k)=Vjf (doW x h) (l.drop (k+1)):=by
 obtain⟨h1,h2⟩:=List.getElem?_eq_some_iff.1 hk;rw[List.drop_eq_getElem_cons h1,h2];exact⟨rfl,rfl⟩
theorem Vgd {x:Wd} {l:List Hap} (h:¬Vd8 x=0):Vgc x l=Vd8 x:=by unfold Vgc;rw[if_pos h]
theorem Vft {x:Wd} {l:List Hap} (h:Vd8 x=0) (k:80<l.length):Vgc x l=2:=by unfold Vgc;rw[if_neg (by simpa using h),if_pos k]
theorem Vhw {x:Wd} {l:List Hap} (h:Vd8 x=0) (k:¬80<l.length):Vgc x l=Vhx x l:=by unfold Vgc;rw[if_neg (by simpa using h),if_neg k]
theorem Vi6 {x:Wd} {l:List Hap} (h:Vgc x l=0):Vhy x l=Vjf x l:=by unfold Vhy;rw[if_pos h]
theorem Vjc {x:Wd} {B:Nat} {W V:World} {b:Nat} {oa:Option Addr} {on oc:Nat} {u:Value} (hr:RightX x) (hc:OSl RCl 8 73 B (fun j=>B≤j∧some j≠u.ownBlock) W (.slice oa on oc) x.clients) (hl:OSl RNo 4 48 B (fun j=>B≤j∧some j≠(Value.slice oa on oc).ownBlock) W u x.log) (hn:∀k,u.ownBlock=some k→(Value.slice oa on oc).ownBlock≠some k)
  (hx:Ext W V) (hb:W.heap.size≤b) (hB:B≤W.heap.size) (c0:V.cell? ⟨b,0,none⟩=some (.slice oa on oc)) (c1:V.cell? ⟨b,1,none⟩=some u) (fz:∀o,V.frozen? ⟨b,o,none⟩=false):∃g,WdAt B b x V g oc u:=by
 obtain⟨g,rfl⟩:=Qzt hc hr.few.1;obtain rfl:on=x.clients.length:=(Qa2 hc).1;have g1:=Qak hc g rfl;have g2:=Qak hl;refine⟨g,c0,c1,fz,Nat.le_trans hB hb,Qai gCl (Qbt gCl hc fun k hk hkl _=>⟨hk.1,oM,hk.2⟩) hx,Qai gNo (Qbt gNo hl fun k hk hkl _=>⟨hk.1,fun e=> ?_⟩) hx,fun k hk e=> ?_,oM⟩
 ·rcases e with e|e
  ·omega
  ·exact hk.2 (by rw[e];rfl)
 ·rcases e with e|e
  ·have:=(g2 k hk).2;omega
  ·exact hn k hk (by rw[e];rfl)
theorem Vi1 {x:Wd} {B N:Nat} {W W':World} {oa ua:Option Addr} {on oc un uc:Nat} (h:OSl RCl 8 73 B (fun j=>B≤j∧some j≠(Value.slice ua un uc).ownBlock) W (.slice oa on oc) x.clients∧OSl RNo 4 48 B (fun j=>B≤j∧some j≠(Value.slice oa on oc).ownBlock) W (.slice ua un uc) x.log)
  (hN:N+2≤B) (hk:Keeps (fun k=>N+2≤k) W W'):RWd (fun k=>N≤k) W' (.slice oa on oc) (.slice ua un uc) x:=
 ⟨((Qaz gCl h.1 (G:=fun k=>N+2≤k) (fun k h _=>Nat.le_trans hN h.1) (fun k h=>Nat.le_trans hN h)).keep gCl hk).more gCl (fun k h _=>Nat.le_trans (Nat.le_add_right _ 2) h),((Qaz gNo h.2 (G:=fun k=>N+2≤k) (fun k h _=>Nat.le_trans hN h.1) (fun k h=>Nat.le_trans hN h)).keep gNo hk).more gNo (fun k h _=>Nat.le_trans (Nat.le_add_right _ 2) h)⟩
theorem Vj4 {w:World} {b:Nat} {x0 x1 x2 x3 x4 x5:Value} (h0:w.cell? ⟨b,0,none⟩=some x0) (h1:w.cell? ⟨b,1,none⟩=some x1) (h2:w.cell? ⟨b,2,none⟩=some x2) (h3:w.cell? ⟨b,3,none⟩=some x3) (h4:w.cell? ⟨b,4,none⟩=some x4) (h5:w.cell? ⟨b,5,none⟩=some x5):w.rangeAt b 0 [x0,x1,x2,x3,x4,x5]:=by
 intro j v hv
 match j,hv with
 |0,hv=>injection hv with hv;subst hv;exact h0
 |1,hv=>injection hv with hv;subst hv;exact h1
 |2,hv=>injection hv with hv;subst hv;exact h2
 |3,hv=>injection hv with hv;subst hv;exact h3
 |4,hv=>injection hv with hv;subst hv;exact h4
 |5,hv=>injection hv with hv;subst hv;exact h5
 |j+6,hv=>simp at hv
theorem Vhq {p:Prop} (h:p:=by
 go_enter Tryz.func63,Tryz.ntmps63;go_wp2_with (first
  |(go_at_call 20;go_must ((with_reducible refine(HCK.o _ Qac).mono ?_);rintro e w3 ⟨rfl,hx3⟩;obtain⟨z3_0,z3_1⟩:=cC2 hx3 (w.heap.size+1) (.slice none 0 0) (.slice none 0 0);have g3_0:=fL hx3 (w.heap.size+1) 0;have g3_1:=fL hx3 (w.heap.size+1) 1;obtain⟨p3_0,p3_1⟩:=cC2 hx3 (w.heap.size) (.slice av x.clients.length cv) (.slice al x.log.length cl');have hz3:=hx3.size;(try simp at hz3);have hb3:=zL hx3 (w.heap.size+1);have hp3:=zL hx3 w.heap.size;have HX3:=xY w hx3;clear hx3)))
 first
 |(
   clear zqa;rw[HE.o,Veu (by rw[HE.o];decide)];refine bodyPost_ret (v:= .tuple #[.agg #[.slice none 0 0,.slice none 0 0],.int .i64 2]) (by simp[results,Tryz.results63,go_sem,z3_0,z3_1,g3_0,g3_1,hb3]) rfl (Ves (by have hX3:=HX3.o;exact Qac))
   done)
 |(
   clear zqb;rw[HE.o,Veu (by rw[HE.o];exact HN.o)];refine bodyPost_ret (v:= .tuple #[.agg #[.slice none 0 0,.slice none 0 0],.int .i64 er]) (by simp[results,Tryz.results63,go_sem,z3_0,z3_1,g3_0,g3_1,hb3]) rfl (Ves (by have hX3:=HX3.o;exact Qac))
   done)):p:=h
theorem Vhg {F G:Nat→Prop} {w:World} {v u vl:Value} {x:Wd} {l:List Hap} (h:RWd F w v u x) (hl:RSl RHp 6 G w vl l):
  Calls Tryz.prog 63 #[.agg #[v,u],vl] w (Vjg (Vhy x l) (Vgc x l) w):=by
 have HCK:=hH (fun(W:World) (hx:Ext w W)=>Vef (h.ext hx));have HOW0:=hH (fun(hr:RightX x) (W:World) (hx:Ext w W)=>Vei (h.ext hx) hr);have HLI:=hH (fun(W:World) (hx:Ext w W)=>hl.ext gHp hx);obtain⟨av,n0,cv,rfl⟩:=h.1.slice;obtain⟨al,n9,cl',rfl⟩:=h.2.slice;obtain rfl:n0=x.clients.length:=h.1.len.1;obtain rfl:n9=x.log.length:=h.2.len.1;obtain⟨ha,hn,hc,rfl⟩:=hl.slice;obtain rfl:hn=l.length:=hl.len.1;clear h hl;by_cases hw:Vd8 x=0
 ·have hr:=checkW_ok.1 hw;rw[hw] at HCK;by_cases h80:80<l.length
  ·have HE:=hH (Vft hw h80);have t1:decide (80<(l.length:Int))=true:=decide_eq_true oM;clear HOW0 hr hw h80;have zqa:=trivial;exact Vhq
  ·have HE:=hH (Vhw hw h80);have t1:decide (80<(l.length:Int))=false:=decide_eq_false oM;have HOW:=hH (HOW0.o hr);have HRX:=hH hr;have hl80:l.length≤80:=oM;clear HOW0 hr hw h80;go_enter Tryz.func63,Tryz.ntmps63;go_upto_region 7 with(first|(go_at_call 20;go_must ((with_reducible refine(HCK.o _ Qac).mono ?_);rintro e w3 ⟨rfl,hx3⟩;obtain⟨z3_0,z3_1⟩:=cC2 hx3 (w.heap.size+1) (.slice none 0 0) (.slice none 0 0);have g3_0:=fL hx3 (w.heap.size+1) 0;have g3_1:=fL hx3 (w.heap.size+1) 1;obtain⟨p3_0,p3_1⟩:=cC2 hx3 (w.heap.size) (.slice av x.clients.length cv) (.slice al x.log.length cl');have hz3:=hx3.size;(try simp at hz3);have hb3:=zL hx3 (w.heap.size+1);have hp3:=zL hx3 w.heap.size;have HX3:=xY w hx3;clear hx3))|(go_at_call 110;go_must ((with_reducible refine(HOW.o _ (ext_trans HX3.o Qac)).mono ?_);rintro e w4 ⟨oa,on,oc,ua,un,uc,rfl,hcl4,hlg4,hne4,hx4⟩;obtain⟨z4_0,z4_1⟩:=cC2 hx4 (w.heap.size+1) (.slice none 0 0) (.slice none 0 0);have g4_0:=fL hx4 (w.heap.size+1) 0;have g4_1:=fL hx4 (w.heap.size+1) 1;have hz4:=hx4.size;(try simp at hz4);have hb4:=zL hx4 (w.heap.size+1);have hp4:=zL hx4 w.heap.size;have HOW4:=hH (And.intro hcl4 (And.intro hlg4 hne4)));have HX4:=xY w3 hx4;have hs4:w3.heap.size≤w4.heap.size:=(show Ext w3 w4 from ext_trans Qac hx4).size;clear hx4 hcl4 hlg4 hne4))
   refine Qad (fun W5 eW5=> ?_);have HX45:=hH (xE w4 eW5);have HX5:=hH (ext_trans HX4.o HX45.o);obtain⟨g,hwd⟩:=Vjc (B:=w3.heap.size) (V:=W5) (b:=w4.heap.size) HRX.o HOW4.o.1 HOW4.o.2.1 HOW4.o.2.2 HX45.o (Nat.le_refl _) hs4 (by rw[eW5];go_simp) (by rw[eW5];go_simp) (fun o=>by rw[eW5];go_simp);obtain⟨bw,hbw⟩:∃q,w4.heap.size=q:=⟨_,rfl⟩;rw[hbw] at hwd;have HWD:=hH hwd;have HZ:=hH (show w3.cell? ⟨w.heap.size+1,0,none⟩=some (.slice none 0 0)∧w3.cell? ⟨w.heap.size+1,1,none⟩=some (.slice none 0 0)∧w3.frozen? ⟨w.heap.size+1,0,none⟩=false∧w3.frozen? ⟨w.heap.size+1,1,none⟩=false∧w.heap.size+1<w3.heap.size from⟨z3_0,z3_1,g3_0,g3_1,hb3⟩);rw[hbw];clear eW5 hwd HOW4 HOW HCK hbw z3_0 z3_1 g3_0 g3_1 z4_0 z4_1 g4_0 g4_1 p3_0 p3_1 t1 HX4 HX45;go_wp2_with fail
   go_loopw [30] (fun iv wr=>∃(k:Nat) (y:Wd) (ub:Option Addr) (um uk:Nat),k≤l.length∧iv= .int .i64 k∧Hid (Vhx x l=Vhx y (l.drop k)∧Vjf x l=Vjf y (l.drop k)∧RightX y)∧Hid (WdAt w3.heap.size bw y wr g oc (.slice ub um uk))∧Hid (Ext w3 wr)) (fun iv _=>l.length-(intOf iv).toNat)
   case atStart=>exact⟨0,x,_,_,_,Nat.zero_le _,rfl,hH ⟨rfl,rfl,HRX.o⟩,HWD,HX5⟩
   case round=>
    clear HWD HX5;obtain⟨k,y,ub,um,uk,hk,rfl,HY,HW,HX⟩:=hrel;have hb3:=HZ.o.2.2.2.2;have hs3r:=HX.o.size;have c0:=HW.o.c0;have c1:=HW.o.c1;have hbr:=HW.o.lt;by_cases hlt:k<l.length
    ·obtain⟨b,o,h,ea,hbz,ek,y0,y1,y2,y3,y4,y5⟩:=Vki (HLI.o wr (ext_trans HX3.o HX.o)) hlt;subst ea;obtain⟨hs1,hs2⟩:=Vgx (x:=y) ek;obtain⟨er,her⟩:∃q,Vfa y.clients.length h=q:=⟨_,rfl⟩;have HS:=hH (And.intro hs1 (And.intro hs2 her));clear hs1 hs2 her ek;go_upto_region 10 with fail
     refine Qad (fun V eV=> ?_);have HXV:=hH (xE wr eV);obtain⟨k_0,k_1,k_2,k_3,k_4,k_5⟩:=rR6 eV wr.heap.size (.int .i64 h.kind) (.int .i64 h.who) (.int .i64 h.at_) (.int .i64 h.many) (.string h.text) (.bool h.lost);obtain⟨v0,v1⟩:=rR2 eV bw (.slice (some ⟨g,0,none⟩) y.clients.length oc) (.slice ub um uk);have htV:wr.heap.size<V.heap.size:=World.block_lt_of_cell? _ _ k_0;have hbV:bw<V.heap.size:=Nat.lt_of_lt_of_le hbr HXV.o.size;have HWV:=hH (HW.o.ext HXV.o);have HHP:=hH (fun(W:World) (hx:Ext V W)=>Vf9 (h:=h) (HWV.o.ext hx).read HY.o.2.2.few.2);rw[HS.o.2.2] at HHP;clear eV y0 y1 y2 y3 y4 y5 c0 c1;refine Qaa fol kR (fun hlater=> ?_);repeat(go_big_quiet_step (first
      |(go_at_call 136;(with_reducible exact Qah (HHP.o _ (Later.ext _))))))
     refine wpQuiet_nil ?_;rintro w6 ⟨⟨w6x,hx6⟩,rfl⟩;clear hlater;have HX6:=hH (show Ext w3 w6 from ext_trans HX.o (ext_trans HXV.o (ext_trans hx6 Qac)));obtain⟨j_0,j_1,j_2,j_3,j_4,j_5⟩:=cC6 hx6 (wr.heap.size) (.int .i64 h.kind) (.int .i64 h.who) (.int .i64 h.at_) (.int .i64 h.many) (.string h.text) (.bool h.lost);have z6_0:=(HX6.o.cells (w.heap.size+1) 0 hb3).trans HZ.o.1;have z6_1:=(HX6.o.cells (w.heap.size+1) 1 hb3).trans HZ.o.2.1;have g6_0:=(HX6.o.frz (w.heap.size+1) 0 hb3).trans HZ.o.2.2.1;have g6_1:=(HX6.o.frz (w.heap.size+1) 1 hb3).trans HZ.o.2.2.2.1;by_cases h0:er=0
     ·have t2:(er !=0)=false:=by simp[h0]
      have HSS:=hH (show Vhx y (l.drop k)=Vhx (doW y h) (l.drop (k+1)) from by rw[HS.o.1,HS.o.2.2,h0,if_neg sI]);have HDO:=hH (fun(W:World) (hx:Ext V W)=>Vij (h:=h) (HWV.o.ext hx) HY.o.2.2 (HS.o.2.2.trans h0) (Nat.le_trans HX.o.size (Nat.le_trans HXV.o.size hx.size)));have HRY:=hH (Vgo HY.o.2.2 (HS.o.2.2.trans h0));have hxv6:Ext V w6:=ext_trans hx6 Qac;clear h0 z6_0 z6_1 g6_0 g6_1 k_0 k_1 k_2 k_3 k_4 k_5 v0 v1;go_wp2_with (first|(go_at_call 137;go_must ((with_reducible refine(HDO.o _ (ext_trans hxv6 Qac)).mono ?_);rintro e w8 ⟨rfl,hst⟩;obtain⟨⟨u8,hw8⟩,hx8⟩:=hst;obtain⟨vb,vm,vk,rfl⟩:=hw8.read.2.slice;have HW8:=hH hw8;have HX8:=hH (hx8 w3 (ext_trans HX6.o Qac) (Nat.le_refl _));clear hw8 hx8)))
      go_roundw
      case rel=>exact⟨k+1,doW y h,vb,vm,vk,hlt,by go_num,hH ⟨HY.o.1.trans HSS.o,HY.o.2.1.trans HS.o.2.1,HRY.o⟩,hH (HW8.o.ext Qac),hH (ext_trans HX8.o Qac)⟩
      case measure=>simp[intOf];omega
     ·have t2:(er !=0)=true:=by simpa using h0
      have HRE:=hH (show Vgc x l=er from by rw[HE.o,HY.o.1,HS.o.1,HS.o.2.2,if_pos h0]);have HR0:=hH h0;have hb6:=Nat.lt_of_lt_of_le hb3 HX6.o.size;have hx6w:Ext w w6:=ext_trans HX3.o HX6.o;clear h0 hx6;go_wp2_with fail
      rw[HRE.o,Veu (by rw[HRE.o];exact HR0.o)];refine bodyPost_ret (v:= .tuple #[.agg #[.slice none 0 0,.slice none 0 0],.int .i64 er]) (by simp[results,Tryz.results63,go_sem,z6_0,z6_1,g6_0,g6_1,hb6]) rfl (Ves Qac)
    ·obtain rfl:k=l.length:=oM;have hF:Vgc x l=0:=by rw[HE.o,HY.o.1,List.drop_length];rfl
     have hV:Vhy x l=y:=by rw[Vi6 hF,HY.o.2.1,List.drop_length];rfl
     have HFV:=hH (And.intro hF hV);have HOW:=hH (fun(W:World) (hx:Ext wr W)=>Vei (HW.o.ext hx).read HY.o.2.2);have zr_0:=(HX.o.cells (w.heap.size+1) 0 hb3).trans HZ.o.1;have zr_1:=(HX.o.cells (w.heap.size+1) 1 hb3).trans HZ.o.2.1;have gr_0:=(HX.o.frz (w.heap.size+1) 0 hb3).trans HZ.o.2.2.1;have gr_1:=(HX.o.frz (w.heap.size+1) 1 hb3).trans HZ.o.2.2.2.1;clear hF hV;go_wp2_with (first|(go_at_call 110;go_must ((with_reducible refine(HOW.o _ Qac).mono ?_);rintro e w8 ⟨oa8,on8,oc8,ua8,un8,uc8,rfl,hcl8,hlg8,_,hx8⟩;obtain⟨z8_0,z8_1⟩:=cC2 hx8 (w.heap.size+1) (.slice none 0 0) (.slice none 0 0);have g8_0:=fL hx8 (w.heap.size+1) 0;have g8_1:=fL hx8 (w.heap.size+1) 1;have hz8:=hx8.size;(try simp at hz8);have hb8:=zL hx8 (w.heap.size+1);have HOW8:=hH (And.intro hcl8 hlg8);have HX8:=xY wr hx8;clear hcl8 hlg8 hx8)))
     rw[HFV.o.1,HFV.o.2];have hx8w:Ext w w8:=ext_trans HX3.o (ext_trans HX.o HX8.o);refine bodyPost_ret (v:= .tuple #[.agg #[.slice oa8 on8 oc8,.slice ua8 un8 uc8],.int .i64 0]) (by simp[results,Tryz.results63,go_sem,z8_0,z8_1,g8_0,g8_1,hb8]) rfl ⟨_,_,_,_,_,_,rfl,Vi1 HOW8.o (show w.heap.size+2≤wr.heap.size by omega) (by repeat(first|(with_reducible exact Qag)|(with_reducible refine Qbh ?_)|(with_reducible refine Qae ?_ (fun _ h=>by have h':w.heap.size+2≤w.heap.size+1:=h;omega) _))),Qac⟩
 ·have HE:=hH (Vgd (l:=l) hw);have HN:=hH hw;have t0:(Vd8 x !=0)=true:=by simpa using hw
  have t1:(Vd8 x==0)=false:=by simpa using hw
  clear hw HOW0;generalize Vd8 x=er at *;have zqb:=trivial;exact Vhq
theorem Vfn {F:Nat→Prop} {w:World} {v u:Value} {x:Wd} {h:Hap} (hw:RWd F w v u x) (hi:I64 h.kind∧I64 h.who∧I64 h.at_∧I64 h.many):
  Calls Tryz.prog 16 #[.agg #[v,u],.agg #[.int .i64 h.kind,.int .i64 h.who,.int .i64 h.at_,.int .i64 h.many,.string h.text,.bool h.lost]] w (Vjg (Vhy x [h]) (Vgc x [h]) w):=by
 have HRU:=hH (fun(W:World) (hx:Ext w W) (vl:Value) (hl:RSl RHp 6 (fun _=>True) W vl [h])=>Vhg (hw.ext hx) hl);have HI:=hH hi;obtain⟨av,n0,cv,rfl⟩:=hw.1.slice;obtain⟨al,n9,cl',rfl⟩:=hw.2.slice;obtain⟨er,her⟩:∃q,Vgc x [h]=q:=⟨_,rfl⟩;obtain⟨y,hy⟩:∃q,Vhy x [h]=q:=⟨_,rfl⟩;rw[her,hy] at HRU;rw[her,hy];clear hw hi her hy;go_enter Tryz.func16,Tryz.ntmps16;go_wp2_with (first|(go_at_call 63;go_must ((with_reducible refine(HRU.o _ Qac _ (Qlh rfl (Vj4 asG asG asG asG asG asG) (Vld HI.o) trivial ltA (Nat.le_refl _) mO)).mono ?_);rintro e w3 ⟨oa,on,oc,ua,un,uc,rfl,hwd3,hx3⟩;obtain⟨z3_0,z3_1⟩:=cC2 hx3 (w.heap.size+2) (.slice none 0 0) (.slice none 0 0);have g3_0:=fL hx3 (w.heap.size+2) 0;have g3_1:=fL hx3 (w.heap.size+2) 1;have hz3:=hx3.size;(try simp at hz3);have hb3:=zL hx3 (w.heap.size+2);have HWD:=hH (hwd3.more (G:=fun k=>w.heap.size+3≤k) (fun k hk _=>Nat.le_trans ltA hk));have HX3:=xY w hx3;clear hwd3 hx3)))
 refine bodyPost_ret (v:= .tuple #[.agg #[.slice oa on oc,.slice ua un uc],.int .i64 er]) (by simp[results,Tryz.results16,go_sem,z3_0,z3_1,g3_0,g3_1,hb3]) rfl ⟨_,_,_,_,_,_,rfl,⟨?_,?_⟩,(by have hX3:=HX3.o;exact Qac)⟩
 ·exact(HWD.o.1.keep gCl (by repeat(first|(with_reducible exact Qag)|(with_reducible refine Qbh ?_)|(with_reducible refine Qae ?_ (fun _ h=>by have h':w.heap.size+3≤w.heap.size+2:=h;omega) _)))).more gCl (fun k h _=>Nat.le_trans (Nat.le_add_right _ 3) h)
 ·exact(HWD.o.2.keep gNo (by repeat(first|(with_reducible exact Qag)|(with_reducible refine Qbh ?_)|(with_reducible refine Qae ?_ (fun _ h=>by have h':w.heap.size+3≤w.heap.size+2:=h;omega) _)))).more gNo (fun k h _=>Nat.le_trans (Nat.le_add_right _ 3) h)
def Vlh (g o:Nat) (w:World):Nat:=match w.cell? ⟨g,o,none⟩ with|some (.slice _ n _)=>n|_=>0
theorem Vkw {g o:Nat} {w:World} {a:Option Addr} {n c:Nat} (h:w.cell? ⟨g,o,none⟩=some (.slice a n c)):Vlh g o w=n:=by unfold Vlh;rw[h]
theorem Viz {B b g cap i:Nat} {x:Wd} {w:World} {u:Value} {c:Cl} (h:WdAt B b x w g cap u) (hc:x.clients[i]?=some c):Vlh g (i * 8+6) w=c.desk.out.length:=by
 obtain⟨a1,n1,c1,a2,n2,c2,a3,n3,c3,a4,n4,c4,a5,n5,c5,_,hd,⟨_,_,_,_,_,_,y6,_⟩,_⟩:=h.at_ hc;rw[Vkw y6];obtain⟨_,_,_,_,ho⟩:=Vea hd;exact ho.len.1
theorem Vhh {x:Wd} {i:Nat} {c:Cl} (hc:x.clients[i]?=some c) (h:Vej x c=false):∀k,Ven k x i=x
 |0=>rfl
 |k+1=>by unfold Ven;rw[hc];show(if Vej x c=true then _ else x)=x;rw[h];rfl
theorem Vja {x:Wd} {i k:Nat} {c:Cl} (hc:x.clients[i]?=some c) (h:Vej x c=true):Ven (k+1) x i=Ven k (Veh false x i c) i:=by
 show(match x.clients[i]? with|none=>x|some c=>if Vej x c=true then Ven k (Veh false x i c) i else x)=_
 rw[hc];exact if_pos h
theorem Vi9 {x:Wd} {i:Nat} {c:Cl} (hc:x.clients[i]?=some c) (h:Vej x c=true):∃c',(Veh false x i c).clients[i]?=some c'∧c'.desk.out.length+1=c.desk.out.length:=by
 have hl:i<x.clients.length:=(List.getElem?_eq_some_iff.1 hc).1;cases ho:c.desk.out with
 |nil=>unfold Vej at h;rw[ho] at h;cases h
 |cons n r=>
  have h0:Vfd x.log n=0:=by unfold Vej at h;rw[ho] at h;exact of_decide_eq_true h
  rw[(Vf6 (i:=i) ho h0).2];refine⟨_,List.getElem?_set_self hl,?_⟩
  show c.desk.out.tail.length+1=_
  rw[ho];rfl
theorem Vka {lost:Bool} {x:Wd} {i:Nat} {c:Cl} (h:Vej x c=false):Veh lost x i c=x:=by
 cases ho:c.desk.out with
 |nil=>exact(Vf5 ho).2
 |cons n r=>
  have h0:¬Vfd x.log n=0:=fun e=>by
   have:Vej x c=true:=by unfold Vej;rw[ho];exact decide_eq_true e
   rw[this] at h;cases h
  rw[(Vgy ho h0).2,Vhl h0]
theorem Vh6 {x:Wd} {i:Nat} {c:Cl} (hc:x.clients[i]?=some c):Veq x i=Ven c.desk.out.length x i:=by unfold Veq;rw[hc]
theorem Vgv {x:Wd} {i:Nat} {c:Cl} (hc:x.clients[i]?=some c):Ve1 x i=Ved 300 x i c:=by unfold Ve1;rw[hc]
theorem Vh7 {x:Wd} (h:Vd8 x=0):Ver x=Vgg x:=by unfold Ver;rw[if_pos h]
theorem Vhj {x:Wd} (h:¬Vd8 x=0):Ver x=noW:=by unfold Ver;rw[if_neg h]
theorem Vh8 {F:Nat→Prop} {w:World} {v u:Value} {x:Wd} (h:RWd F w v u x):
  Calls Tryz.prog 44 #[.agg #[v,u]] w (Vjg (Ver x) (Vd8 x) w):=by
 have HCK:=hH (fun(W:World) (hx:Ext w W)=>Vef (h.ext hx));have HOW0:=hH (fun(hr:RightX x) (W:World) (hx:Ext w W)=>Vei (h.ext hx) hr);obtain⟨av,n0,cv,rfl⟩:=h.1.slice;obtain⟨al,n9,cl',rfl⟩:=h.2.slice;obtain rfl:n0=x.clients.length:=h.1.len.1;obtain rfl:n9=x.log.length:=h.2.len.1;clear h;by_cases hw:Vd8 x=0
 ·have hr:=checkW_ok.1 hw;rw[hw] at HCK;have HV:=hH (Vh7 hw);have HE:=hH hw;have HOW:=hH (HOW0.o hr);have HRX:=hH hr;have hl5:x.clients.length≤5:=hr.few.2;clear HOW0 hr hw;go_enter Tryz.func44,Tryz.ntmps44;go_upto_region 5 with(first|(go_at_call 20;go_must ((with_reducible refine(HCK.o _ Qac).mono ?_);rintro e w3 ⟨rfl,hx3⟩;obtain⟨z3_0,z3_1⟩:=cC2 hx3 (w.heap.size+1) (.slice none 0 0) (.slice none 0 0);have g3_0:=fL hx3 (w.heap.size+1) 0;have g3_1:=fL hx3 (w.heap.size+1) 1;obtain⟨p3_0,p3_1⟩:=cC2 hx3 (w.heap.size) (.slice av x.clients.length cv) (.slice al x.log.length cl');have hz3:=hx3.size;(try simp at hz3);have hb3:=zL hx3 (w.heap.size+1);have hp3:=zL hx3 w.heap.size;have HX3:=xY w hx3;clear hx3))|(go_at_call 110;go_must ((with_reducible refine(HOW.o _ (ext_trans HX3.o Qac)).mono ?_);rintro e w4 ⟨oa,on,oc,ua,un,uc,rfl,hcl4,hlg4,hne4,hx4⟩;obtain⟨z4_0,z4_1⟩:=cC2 hx4 (w.heap.size+1) (.slice none 0 0) (.slice none 0 0);have g4_0:=fL hx4 (w.heap.size+1) 0;have g4_1:=fL hx4 (w.heap.size+1) 1;have hz4:=hx4.size;(try simp at hz4);have hb4:=zL hx4 (w.heap.size+1);have hp4:=zL hx4 w.heap.size;have HOW4:=hH (And.intro hcl4 (And.intro hlg4 hne4)));have HX4:=xY w3 hx4;have hs4:w3.heap.size≤w4.heap.size:=(show Ext w3 w4 from ext_trans Qac hx4).size;clear hx4 hcl4 hlg4 hne4))
  refine Qad (fun W5 eW5=> ?_);have HX45:=hH (xE w4 eW5);have HX5:=hH (ext_trans HX4.o HX45.o);obtain⟨g,hwd⟩:=Vjc (B:=w3.heap.size) (V:=W5) (b:=w4.heap.size) HRX.o HOW4.o.1 HOW4.o.2.1 HOW4.o.2.2 HX45.o (Nat.le_refl _) hs4 (by rw[eW5];go_simp) (by rw[eW5];go_simp) (fun o=>by rw[eW5];go_simp);obtain⟨bw,hbw⟩:∃q,w4.heap.size=q:=⟨_,rfl⟩;rw[hbw] at hwd;have HWD:=hH hwd;have HZ:=hH (show w3.cell? ⟨w.heap.size+1,0,none⟩=some (.slice none 0 0)∧w3.cell? ⟨w.heap.size+1,1,none⟩=some (.slice none 0 0)∧w3.frozen? ⟨w.heap.size+1,0,none⟩=false∧w3.frozen? ⟨w.heap.size+1,1,none⟩=false∧w.heap.size+1<w3.heap.size from⟨z3_0,z3_1,g3_0,g3_1,hb3⟩);have w50:=hwd.c0;rw[hbw];clear eW5 hwd HOW4 HOW HCK hbw z3_0 z3_1 g3_0 g3_1 z4_0 z4_1 g4_0 g4_1 p3_0 p3_1 HX4 HX45;go_wp2_with fail
  go_loopw [24] (fun iv wr=>∃(k:Nat) (y:Wd) (ub:Option Addr) (um uk:Nat),k≤x.clients.length∧iv= .int .i64 k∧Hid (y=Vek k x∧RightX y∧y.clients.length=x.clients.length)∧Hid (WdAt w3.heap.size bw y wr g oc (.slice ub um uk))∧Hid (Ext w3 wr)) (fun iv _=>x.clients.length-(intOf iv).toNat)
  case atStart=>exact⟨0,x,_,_,_,Nat.zero_le _,rfl,hH ⟨rfl,HRX.o,rfl⟩,HWD,HX5⟩
  case round=>
   clear HWD HX5 w50;obtain⟨k,y,ub,um,uk,hk,rfl,HY,HW,HX⟩:=hrel;have hb3:=HZ.o.2.2.2.2;have c0:=HW.o.c0;rw[HY.o.2.2] at c0;have hbr:=HW.o.lt;by_cases hlt:k<x.clients.length
   ·obtain⟨c,hc⟩:∃c,y.clients[k]?=some c:=⟨_,List.getElem?_eq_getElem (by rw[HY.o.2.2];exact hlt)⟩;have HSA:=hH (Vh6 hc);have HC:=hH hc;clear hc;go_wp2_with fail
    go_loopw [] (fun wz=>∃(z:Wd) (d:Cl) (ub:Option Addr) (um uk:Nat),Hid (z.clients[k]?=some d∧Veq y k=Ven d.desk.out.length z k∧RightX z∧z.clients.length=x.clients.length)∧Hid (WdAt w3.heap.size bw z wz g oc (.slice ub um uk))∧Hid (Ext w3 wz)) (fun wz=>Vlh g (k * 8+6) wz)
    case atStart=>exact⟨y,c,_,_,_,hH ⟨HC.o,HSA.o,HY.o.2.1,HY.o.2.2⟩,HW,HX⟩
    case round=>
     clear HW HX c0 hbr;obtain⟨z,d,ub,um,uk,HZZ,HWZ,HXZ⟩:=hrel;have c0:=HWZ.o.c0;rw[HZZ.o.2.2.2] at c0;have hbz:=HWZ.o.lt;have HOL:=hH (Viz HWZ.o HZZ.o.1);have HSN:=hH (fun(W:World) (hx:Ext _ W)=>Vhz (lost:=false) (HWZ.o.ext hx) HZZ.o.2.2.1 HZZ.o.1 (Nat.le_trans HXZ.o.size hx.size));obtain⟨sb,hsb⟩:∃q,Vej z d=q:=⟨_,rfl⟩;rw[hsb] at HSN;have HSB:=hH hsb;clear hsb;cases sb with
     |true=>
      obtain⟨d',hd1,hd2⟩:=Vi9 HZZ.o.1 HSB.o;have HD:=hH (And.intro hd1 hd2);have HRS:=hH (show RightX (Veh false z k d)∧(Veh false z k d).clients.length=x.clients.length from⟨by rw[Vfu];exact Veo HZZ.o.2.2.1 HZZ.o.1 ⟨dC,dC⟩,by rw[Vfu];exact(Vf7 ..).trans HZZ.o.2.2.2⟩);clear hd1 hd2;go_wp2_with (first|(go_at_call 111;go_must ((with_reducible refine(HSN.o _ Qac).mono ?_);rintro e w8 ⟨rfl,hst⟩;obtain⟨⟨u8,hw8⟩,hx8⟩:=hst;obtain⟨vb,vm,vk,rfl⟩:=hw8.read.2.slice;have HW8:=hH hw8;have HX8:=hH (hx8 w3 (ext_trans HXZ.o Qac) (Nat.le_refl _));clear hw8 hx8)))
      go_roundw
      case rel=>exact⟨Veh false z k d,d',vb,vm,vk,hH ⟨HD.o.1,by rw[HZZ.o.2.1,←HD.o.2,Vja HZZ.o.1 HSB.o],HRS.o.1,HRS.o.2⟩,hH (HW8.o.ext Qac),hH (ext_trans HX8.o Qac)⟩
      case measure=>
       have h1:=HOL.o;have h2:=Viz (HW8.o.ext (show Ext w8 _ from Qac)) HD.o.1;have h3:=HD.o.2;omega
     |false=>
      have HZ2:=hH (HZZ.o.2.1.trans (Vhh HZZ.o.1 HSB.o _));rw[Vka HSB.o] at HSN;go_wp2_with (first|(go_at_call 111;go_must ((with_reducible refine(HSN.o _ Qac).mono ?_);rintro e w8 ⟨rfl,hst⟩;obtain⟨⟨u8,hw8⟩,hx8⟩:=hst;obtain⟨vb,vm,vk,rfl⟩:=hw8.read.2.slice;have HW8:=hH hw8;have HX8:=hH (hx8 w3 (ext_trans HXZ.o Qac) (Nat.le_refl _));clear hw8 hx8)))
      go_roundw
      case rel=>exact⟨k+1,z,vb,vm,vk,hlt,by go_num,hH ⟨by show z=Veq (Vek k x) k;rw[←HY.o.1,HZ2.o],HZZ.o.2.2.1,HZZ.o.2.2.2⟩,hH (HW8.o.ext Qac),hH (ext_trans HX8.o Qac)⟩
      case measure=>simp[intOf];omega
   ·obtain rfl:k=x.clients.length:=oM;have HT:=hH (show Vek x.clients.length x=y from HY.o.1.symm);go_wp2_with fail
    go_loopw [43] (fun iv wr=>∃(k:Nat) (y:Wd) (ub:Option Addr) (um uk:Nat),k≤x.clients.length∧iv= .int .i64 k∧Hid (y=Vex k (Vek x.clients.length x)∧RightX y∧y.clients.length=x.clients.length)∧Hid (WdAt w3.heap.size bw y wr g oc (.slice ub um uk))∧Hid (Ext w3 wr)) (fun iv _=>x.clients.length-(intOf iv).toNat)
    case atStart=>exact⟨0,y,_,_,_,Nat.zero_le _,rfl,hH ⟨HT.o.symm,HY.o.2⟩,HW,HX⟩
    case round=>
     clear HW HX c0 hbr HY;obtain⟨k,y2,ub,um,uk,hk,rfl,HY,HW,HX⟩:=hrel;have c0:=HW.o.c0;rw[HY.o.2.2] at c0;have hbr:=HW.o.lt;by_cases hlt:k<x.clients.length
     ·obtain⟨c,hc⟩:∃c,y2.clients[k]?=some c:=⟨_,List.getElem?_eq_getElem (by rw[HY.o.2.2];exact hlt)⟩;have HSA:=hH (Vgv hc);have HPL:=hH (fun(W:World) (hx:Ext _ W)=>Vgw (m:=300) (HW.o.ext hx) HY.o.2.1 hc (Nat.le_trans HX.o.size hx.size) ⟨dC,dC⟩);have HRS:=hH (show RightX (Ve1 y2 k)∧(Ve1 y2 k).clients.length=x.clients.length from by rw[Vgv hc,Vfr];exact⟨Veo HY.o.2.1 hc ⟨dC,dC⟩,(Vf7 ..).trans HY.o.2.2⟩);rw[←HSA.o] at HPL;clear hc;go_wp2_with (first|(go_at_call 112;go_must ((with_reducible refine(HPL.o _ Qac).mono ?_);rintro e w8 ⟨rfl,hst⟩;obtain⟨⟨u8,hw8⟩,hx8⟩:=hst;obtain⟨vb,vm,vk,rfl⟩:=hw8.read.2.slice;have HW8:=hH hw8;have HX8:=hH (hx8 w3 (ext_trans HX.o Qac) (Nat.le_refl _));clear hw8 hx8)))
      go_roundw
      case rel=>exact⟨k+1,Ve1 y2 k,vb,vm,vk,hlt,by go_num,hH ⟨by rw[HY.o.1];rfl,HRS.o⟩,hH (HW8.o.ext Qac),hH (ext_trans HX8.o Qac)⟩
      case measure=>simp[intOf];omega
     ·obtain rfl:k=x.clients.length:=oM;have HFV:=hH (show Ver x=y2 from by rw[HV.o,HY.o.1];rfl);have HOW:=hH (fun(W:World) (hx:Ext _ W)=>Vei (HW.o.ext hx).read HY.o.2.1);have zr_0:=(HX.o.cells (w.heap.size+1) 0 hb3).trans HZ.o.1;have zr_1:=(HX.o.cells (w.heap.size+1) 1 hb3).trans HZ.o.2.1;have gr_0:=(HX.o.frz (w.heap.size+1) 0 hb3).trans HZ.o.2.2.1;have gr_1:=(HX.o.frz (w.heap.size+1) 1 hb3).trans HZ.o.2.2.2.1;have c1:=HW.o.c1;have hs3r:=HX.o.size;rw[HY.o.2.2] at HOW;go_wp2_with (first|(go_at_call 110;go_must ((with_reducible refine(HOW.o _ Qac).mono ?_);rintro e w8 ⟨oa8,on8,oc8,ua8,un8,uc8,rfl,hcl8,hlg8,_,hx8⟩;obtain⟨z8_0,z8_1⟩:=cC2 hx8 (w.heap.size+1) (.slice none 0 0) (.slice none 0 0);have g8_0:=fL hx8 (w.heap.size+1) 0;have g8_1:=fL hx8 (w.heap.size+1) 1;have hz8:=hx8.size;(try simp at hz8);have hb8:=zL hx8 (w.heap.size+1);have HOW8:=hH (And.intro hcl8 hlg8);have HX8:=xY wr hx8;clear hcl8 hlg8 hx8)))
      rw[HE.o,HFV.o];have hx8w:Ext w w8:=ext_trans HX3.o (ext_trans HX.o HX8.o);refine bodyPost_ret (v:= .tuple #[.agg #[.slice oa8 on8 oc8,.slice ua8 un8 uc8],.int .i64 0]) (by simp[results,Tryz.results44,go_sem,z8_0,z8_1,g8_0,g8_1,hb8]) rfl ⟨_,_,_,_,_,_,rfl,Vi1 HOW8.o (Nat.le_trans (show w.heap.size+2≤w3.heap.size by omega) HX.o.size) (by repeat(first|(with_reducible exact Qag)|(with_reducible refine Qbh ?_)|(with_reducible refine Qae ?_ (fun _ h=>by have h':w.heap.size+2≤w.heap.size+1:=h;omega) _))),Qac⟩
 ·have HV:=hH (Vhj hw);have t0:(Vd8 x !=0)=true:=by simpa using hw
  clear hw HOW0;generalize Vd8 x=er at *;go_enter Tryz.func44,Tryz.ntmps44;go_wp2_with (first|(go_at_call 20;go_must ((with_reducible refine(HCK.o _ Qac).mono ?_);rintro e w3 ⟨rfl,hx3⟩;obtain⟨z3_0,z3_1⟩:=cC2 hx3 (w.heap.size+1) (.slice none 0 0) (.slice none 0 0);have g3_0:=fL hx3 (w.heap.size+1) 0;have g3_1:=fL hx3 (w.heap.size+1) 1;obtain⟨p3_0,p3_1⟩:=cC2 hx3 (w.heap.size) (.slice av x.clients.length cv) (.slice al x.log.length cl');have hz3:=hx3.size;(try simp at hz3);have hb3:=zL hx3 (w.heap.size+1);have hp3:=zL hx3 w.heap.size;have HX3:=xY w hx3;clear hx3)))
  rw[HV.o];refine bodyPost_ret (v:= .tuple #[.agg #[.slice none 0 0,.slice none 0 0],.int .i64 er]) (by simp[results,Tryz.results44,go_sem,z3_0,z3_1,g3_0,g3_1,hb3]) rfl (Ves (by have hX3:=HX3.o;exact Qac))
def Vk5 (w:World) (e:Ending) (w':World):Prop:=∃g,e= .returned (.slice (some ⟨g,0,none⟩) 4 4)∧RSl RHp 6 (fun _=>True) w' (.slice (some ⟨g,0,none⟩) 4 4) wbH∧(∀(i:Nat) (v:Value),([.int .i64 1,.int .i64 0,.int .i64 0,.int .i64 0,.string ⟨#[104,105]⟩,.bool false]:List Value)[i]?=some v→w'.cell? ⟨g,i,none⟩=some v)∧Ext w w'
theorem Vkq {w:World} {g:Nat} (h:∀(i:Nat) (v:Value),([.int .i64 1,.int .i64 0,.int .i64 0,.int .i64 0,.string ⟨#[104,105]⟩,.bool false,.int .i64 3,.int .i64 0,.int .i64 0,.int .i64 0,.string ⟨#[]⟩,.bool true,.int .i64 3,.int .i64 0,.int .i64 0,.int .i64 0,.string ⟨#[]⟩,.bool false,.int .i64 4,.int .i64 1,.int .i64 0,.int .i64 9,.string ⟨#[]⟩,.bool false]:List Value)[i]?=some v→w.cell? ⟨g,i,none⟩=some v):RSl RHp 6 (fun _=>True) w (.slice (some ⟨g,0,none⟩) 4 4) wbH:=by
 refine⟨_,4,rfl,Nat.le_refl _,by unfold maxLen;decide,fun _=>⟨g,0,rfl,trivial,World.block_lt_of_cell? _ _ (h 0 _ rfl),fun i x hi=> ?_⟩⟩;have is:∀k:Int,0≤k→k≤9→I64 k:=fun k h1 h2=>Qal oM oM
 match i,hi with
 |0,hi=>injection hi with hi;subst hi;exact⟨_,rfl,fun j v hv=>by(match j,hv with|0,hv=>(injection hv with hv;subst hv;exact h 0 _ rfl)|1,hv=>(injection hv with hv;subst hv;exact h 1 _ rfl)|2,hv=>(injection hv with hv;subst hv;exact h 2 _ rfl)|3,hv=>(injection hv with hv;subst hv;exact h 3 _ rfl)|4,hv=>(injection hv with hv;subst hv;exact h 4 _ rfl)|5,hv=>(injection hv with hv;subst hv;exact h 5 _ rfl)|j+6,hv=>simp at hv),rfl,is _ dC dC,is _ dC dC,is _ dC dC,is _ dC dC⟩
 |1,hi=>injection hi with hi;subst hi;exact⟨_,rfl,fun j v hv=>by(match j,hv with|0,hv=>(injection hv with hv;subst hv;exact h 6 _ rfl)|1,hv=>(injection hv with hv;subst hv;exact h 7 _ rfl)|2,hv=>(injection hv with hv;subst hv;exact h 8 _ rfl)|3,hv=>(injection hv with hv;subst hv;exact h 9 _ rfl)|4,hv=>(injection hv with hv;subst hv;exact h 10 _ rfl)|5,hv=>(injection hv with hv;subst hv;exact h 11 _ rfl)|j+6,hv=>simp at hv),rfl,is _ dC dC,is _ dC dC,is _ dC dC,is _ dC dC⟩
 |2,hi=>injection hi with hi;subst hi;exact⟨_,rfl,fun j v hv=>by(match j,hv with|0,hv=>(injection hv with hv;subst hv;exact h 12 _ rfl)|1,hv=>(injection hv with hv;subst hv;exact h 13 _ rfl)|2,hv=>(injection hv with hv;subst hv;exact h 14 _ rfl)|3,hv=>(injection hv with hv;subst hv;exact h 15 _ rfl)|4,hv=>(injection hv with hv;subst hv;exact h 16 _ rfl)|5,hv=>(injection hv with hv;subst hv;exact h 17 _ rfl)|j+6,hv=>simp at hv),rfl,is _ dC dC,is _ dC dC,is _ dC dC,is _ dC dC⟩
 |3,hi=>injection hi with hi;subst hi;exact⟨_,rfl,fun j v hv=>by(match j,hv with|0,hv=>(injection hv with hv;subst hv;exact h 18 _ rfl)|1,hv=>(injection hv with hv;subst hv;exact h 19 _ rfl)|2,hv=>(injection hv with hv;subst hv;exact h 20 _ rfl)|3,hv=>(injection hv with hv;subst hv;exact h 21 _ rfl)|4,hv=>(injection hv with hv;subst hv;exact h 22 _ rfl)|5,hv=>(injection hv with hv;subst hv;exact h 23 _ rfl)|j+6,hv=>simp at hv),rfl,is _ dC dC,is _ dC dC,is _ dC dC,is _ dC dC⟩
 |i+4,hi=>simp[wbH] at hi
theorem Vev (w:World):Calls Tryz.prog 68 #[] w (Vk5 w):=by
 go_enter Tryz.func68,Tryz.ntmps68;go_wp2_with fail
 go_ret;refine⟨_,rfl,Vkq (fun i v hv=> ?_),fun i v hv=> ?_,Qac⟩
 ·match i,hv with
  |0,hv=>injection hv with hv;subst hv;go_simp
  |1,hv=>injection hv with hv;subst hv;go_simp
  |2,hv=>injection hv with hv;subst hv;go_simp
  |3,hv=>injection hv with hv;subst hv;go_simp
  |4,hv=>injection hv with hv;subst hv;go_simp
  |5,hv=>injection hv with hv;subst hv;go_simp
  |6,hv=>injection hv with hv;subst hv;go_simp
  |7,hv=>injection hv with hv;subst hv;go_simp
  |8,hv=>injection hv with hv;subst hv;go_simp
  |9,hv=>injection hv with hv;subst hv;go_simp
  |10,hv=>injection hv with hv;subst hv;go_simp
  |11,hv=>injection hv with hv;subst hv;go_simp
  |12,hv=>injection hv with hv;subst hv;go_simp
  |13,hv=>injection hv with hv;subst hv;go_simp
  |14,hv=>injection hv with hv;subst hv;go_simp
  |15,hv=>injection hv with hv;subst hv;go_simp
  |16,hv=>injection hv with hv;subst hv;go_simp
  |17,hv=>injection hv with hv;subst hv;go_simp
  |18,hv=>injection hv with hv;subst hv;go_simp
  |19,hv=>injection hv with hv;subst hv;go_simp
  |20,hv=>injection hv with hv;subst hv;go_simp
  |21,hv=>injection hv with hv;subst hv;go_simp
  |22,hv=>injection hv with hv;subst hv;go_simp
  |23,hv=>injection hv with hv;subst hv;go_simp
  |i+24,hv=>simp at hv
 ·match i,hv with
  |0,hv=>injection hv with hv;subst hv;go_simp
  |1,hv=>injection hv with hv;subst hv;go_simp
  |2,hv=>injection hv with hv;subst hv;go_simp
  |3,hv=>injection hv with hv;subst hv;go_simp
  |4,hv=>injection hv with hv;subst hv;go_simp
  |5,hv=>injection hv with hv;subst hv;go_simp
  |i+6,hv=>simp at hv
theorem RWd.keep {F:Nat→Prop} {w w':World} {v u:Value} {x:Wd} (h:RWd F w v u x) (hk:Keeps F w w'):RWd F w' v u x:=⟨h.1.keep gCl hk,h.2.keep gNo hk⟩
theorem RWd.all {F:Nat→Prop} {w:World} {v u:Value} {x:Wd} (h:RWd F w v u x):RWd (fun _=>True) w v u x:=h.more fun _ _ _=>trivial
theorem Vg5 {v w:World} {b:Nat} (h:Ext v w) (z:b<v.heap.size) (e0:v.cell? ⟨b,0,none⟩=some (.slice none 0 0)) (e1:v.cell? ⟨b,1,none⟩=some (.slice none 0 0)) (f0:v.frozen? ⟨b,0,none⟩=false) (f1:v.frozen? ⟨b,1,none⟩=false):
  (w.cell? ⟨b,0,none⟩=some (.slice none 0 0)∧w.cell? ⟨b,1,none⟩=some (.slice none 0 0))∧(w.frozen? ⟨b,0,none⟩=false∧w.frozen? ⟨b,1,none⟩=false)∧b<w.heap.size:=
 ⟨⟨(h.cells _ _ z).trans e0,(h.cells _ _ z).trans e1⟩,⟨(h.frz _ _ z).trans f0,(h.frz _ _ z).trans f1⟩,Nat.lt_of_lt_of_le z h.size⟩
theorem Vlk:wbN.clients.length=2:=kR
theorem Vlg {l:List Cl} {k n:Nat} {c:Cl} (h:(l[k]?).map (fun c=>c.desk.out.length)=some n) (hc:l[k]?=some c):c.desk.out.length=n:=by rw[hc] at h;exact Option.some.inj h
theorem Vk3 {F:Nat→Prop} {w:World} {v:Value} {l:List At} (h:RSl RAt 3 F w v l) (ht:Qc3 l=[104,105]):Calls Tryz.prog 69 #[v] w (fun e w'=>e= .returned (.string ⟨#[104,105]⟩)∧Ext w w'):=by
 have hl:l.length=2:=by
  have h1:(Qc3 l).length=2:=by rw[ht];rfl
  unfold Qc3 at h1;rwa [List.length_map] at h1
 have h1:=Qhc h oM;rw[ht] at h1;exact h1
theorem Vlm {l:List Cl} {k:Nat} {t:Tx} {c:Cl} (h:(l[k]?).map (fun c=>Qc3 c.desk.state.1)=some t) (hc:l[k]?=some c):Qc3 c.desk.state.1=t:=by rw[hc] at h;exact Option.some.inj h
theorem Vew (w:World):Calls Tryz.prog 19 #[] w fun e w'=>e= .returned (.bool true)∧Ext w w':=by
 have HNW:=hH (fun(W:World)=>(show Calls Tryz.prog 15 #[.int .i64 2] W (Vjg wbN 0 W) from by have h:=Vjz (n:=2) ⟨dC,dC⟩ W;rw[Vlr] at h;exact h));go_enter Tryz.func19,Tryz.ntmps19;go_upto_region 2 with(first|(go_at_call 15;go_must ((with_reducible refine(HNW.o _).mono ?_);rintro e w1 ⟨na,nn,nc,nb,nm,nk,rfl,hw1,hx1⟩;obtain rfl:nn=2:=hw1.1.len.1.trans Vlk;have HW1:=hH hw1;have HX1:=xY w hx1;clear hw1 hx1)))
 refine Qad (fun W2 eW2=> ?_);obtain⟨e0,e1⟩:=rR2 eW2 w1.heap.size (.slice na 2 nc) (.slice nb nm nk);have HX12:=hH (xE w1 eW2);have HWN:=hH ((HW1.o.ext HX12.o).all);have zb1:w1.heap.size<W2.heap.size:=World.block_lt_of_cell? _ _ e0;have HXW:=hH (ext_trans HX1.o HX12.o);clear eW2 HX1 HX12 HW1 HNW;generalize w1.heap.size=rb at *;have HRU:=hH (fun(W:World) (hx:Ext W2 W) (vl:Value) (hl:RSl RHp 6 (fun _=>True) W vl wbH)=>(show Calls Tryz.prog 63 #[.agg #[.slice na 2 nc,.slice nb nm nk],vl] W (Vjg wbX 0 W) from by have h:=Vhg (HWN.o.ext hx) hl;rw[Vll] at h;exact h));go_cut [3,4] from 13 to 18 (fun s3 s4 wx=>s4= .int .i64 0∧∃(ob:Nat) (xa:Option Addr) (xc:Nat) (xb:Option Addr) (xm xk:Nat),s3= .pointer (some ⟨ob,0,none⟩)∧wx.cell? ⟨ob,0,none⟩=some (.slice xa 2 xc)∧wx.cell? ⟨ob,1,none⟩=some (.slice xb xm xk)∧Hid (RWd (fun _=>True) wx (.slice xa 2 xc) (.slice xb xm xk) wbX)∧Hid (Ext W2 wx))
 case first=>
  go_region_law (first
   |(go_simp;go_at_call 68;go_must ((with_reducible refine(Vev _).mono ?_);rintro e w3 ⟨g3,rfl,hh3,hc3,hx3⟩;(try(refine Veb (T:=(w3.cell? ⟨W2.heap.size,0,none⟩=some (.slice none 0 0)∧w3.cell? ⟨W2.heap.size,1,none⟩=some (.slice none 0 0))∧(w3.frozen? ⟨W2.heap.size,0,none⟩=false∧w3.frozen? ⟨W2.heap.size,1,none⟩=false)∧W2.heap.size<w3.heap.size) ?_ (fun nb=> ?_);(focus(refine Vg5 hx3 ?_ ?_ ?_ ?_ ?_;(all_goals (first|(with_reducible assumption)|omega|(go_simp;done)|(simp;done)|(simp;omega;done)));done));obtain⟨⟨nb0,nb1⟩,⟨ng0,ng1⟩,nbz⟩:=nb));obtain⟨q3_0,q3_1⟩:=cC2 hx3 (rb) (.slice na 2 nc) (.slice nb nm nk);have hz3:=hx3.size;(try simp at hz3);have hr3:=zL hx3 rb;have HX3:=xY W2 hx3;have HH3:=hH hh3;have HC3:=hH hc3;clear hh3 hc3 hx3))
   |(go_simp;go_at_call 63;go_must ((with_reducible refine(HRU.o _ (ext_trans HX3.o Qac) _ (HH3.o.ext gHp Qac)).mono ?_);rintro e w4 ⟨xa,xn,xc,xb,xm,xk,rfl,hw4,hx4⟩;(try(refine Veb (T:=(w4.cell? ⟨w3.heap.size,0,none⟩=some (.slice none 0 0)∧w4.cell? ⟨w3.heap.size,1,none⟩=some (.slice none 0 0))∧(w4.frozen? ⟨w3.heap.size,0,none⟩=false∧w4.frozen? ⟨w3.heap.size,1,none⟩=false)∧w3.heap.size<w4.heap.size) ?_ (fun nb=> ?_);(focus(refine Vg5 hx4 ?_ ?_ ?_ ?_ ?_;(all_goals (first|(with_reducible assumption)|omega|(go_simp;done)|(simp;done)|(simp;omega;done)));done));obtain⟨⟨nb0,nb1⟩,⟨ng0,ng1⟩,nbz⟩:=nb));(try(refine Veb (T:=(w4.cell? ⟨W2.heap.size,0,none⟩=some (.slice none 0 0)∧w4.cell? ⟨W2.heap.size,1,none⟩=some (.slice none 0 0))∧(w4.frozen? ⟨W2.heap.size,0,none⟩=false∧w4.frozen? ⟨W2.heap.size,1,none⟩=false)∧W2.heap.size<w4.heap.size) ?_ (fun nb=> ?_);(focus(refine Vg5 hx4 ?_ ?_ ?_ ?_ ?_;(all_goals (first|(with_reducible assumption)|omega|(go_simp;done)|(simp;done)|(simp;omega;done)));done));obtain⟨⟨nb0,nb1⟩,⟨ng0,ng1⟩,nbz⟩:=nb));obtain rfl:xn=2:=hw4.1.len.1.trans Vlq;have HW4:=hH hw4;have HX4:=xX HX3 hx4;have hs4:w3.heap.size≤w4.heap.size:=(show Ext w3 w4 from ext_trans Qac hx4).size;have hs3:W2.heap.size≤w3.heap.size:=HX3.o.size;clear hw4 hx4)))
  all_goals (go_wp2_with fail;go_meet)
  all_goals
   have hX4:=HX4.o;refine⟨rfl,_,xa,xc,xb,xm,xk,rfl,by first|(with_reducible assumption)|go_simp,by first|(with_reducible assumption)|go_simp,hH ?_,hH ?_⟩
   ·first
     |exact(HW4.o.keep (by repeat(first|(with_reducible exact Qag)|(with_reducible refine Qa1 ?_ _)|(with_reducible refine Qbh ?_)|(refine Qae ?_ (by intro _ h;have h':=h;first|(simp at h';done)|(simp at h';omega)|omega) _)))).all
     |exact(HW4.o.ext Qac).all
   ·exact Qac
 case rest=>
  obtain⟨rfl,ob,xa,xc,xb,xm,xk,rfl,x0,x1,HWX,HXC⟩:=hcut;obtain⟨V,eV⟩:∃W:World,W=wc:=⟨wc,rfl⟩;subst eV;obtain⟨p0,p1⟩:=tT2 HXC.o zb1 e0 e1;have hrV:rb<V.heap.size:=Nat.lt_of_lt_of_le zb1 HXC.o.size;have hoV:ob<V.heap.size:=World.block_lt_of_cell? _ _ x0;have HXV:=hH (ext_trans HXW.o HXC.o);have HWNV:=hH (HWN.o.ext HXC.o);clear e0 e1 HXW HXC HRU HWN zb1;have HST:=hH (fun(W:World) (hx:Ext V W)=>(show Calls Tryz.prog 44 #[.agg #[.slice xa 2 xc,.slice xb xm xk]] W (Vjg wbY 0 W) from by have h:=Vh8 (HWX.o.ext hx);rw[Vln] at h;exact h));have HDO:=hH (fun(W:World) (hx:Ext V W)=>(show Calls Tryz.prog 16 #[.agg #[.slice na 2 nc,.slice nb nm nk],.agg #[.int .i64 1,.int .i64 0,.int .i64 0,.int .i64 0,.string ⟨#[104,105]⟩,.bool false]] W (Vjg wbZ 0 W) from by have h:=Vfn (h:=wbA) (HWNV.o.ext hx) ⟨⟨dC,dC⟩,⟨dC,dC⟩,⟨dC,dC⟩,⟨dC,dC⟩⟩;rw[Vlx] at h;exact h));go_upto_region 4 with(first|(go_at_call 44;go_must ((with_reducible refine(HST.o _ Qac).mono ?_);rintro e w5 ⟨ya,yn,yc,yb,ym,yk,rfl,hw5,hx5⟩;obtain⟨p5_0,p5_1⟩:=cC2 hx5 (rb) (.slice na 2 nc) (.slice nb nm nk);obtain⟨o5_0,o5_1⟩:=cC2 hx5 (ob) (.slice xa 2 xc) (.slice xb xm xk);have hz5:=hx5.size;(try simp at hz5);have hr5:=zL hx5 rb;have ho5:=zL hx5 ob;have HW5:=hH hw5;have HX5:=xY V hx5;clear hw5 hx5)))
  refine Qad (fun W5 eW5=> ?_);have HXV5:=hH (show Ext V W5 by rw[eW5];exact ext_trans HX5.o Qac);have HX55:=hH (xE w5 eW5);have HWY:=hH ((HW5.o.ext HX55.o).all);obtain⟨b0,b1⟩:=rR2 eW5 w5.heap.size (.slice ya yn yc) (.slice yb ym yk);obtain⟨t0,t1⟩:=tT2 HXV5.o hrV p0 p1;obtain⟨o0,o1⟩:=tT2 HXV5.o hoV x0 x1;have hr5':rb<W5.heap.size:=Nat.lt_of_lt_of_le hrV HXV5.o.size;have ho5':ob<W5.heap.size:=Nat.lt_of_lt_of_le hoV HXV5.o.size;have hy5:w5.heap.size<W5.heap.size:=World.block_lt_of_cell? _ _ b0;have HWX5:=hH (HWX.o.ext HXV5.o);have HXW5:=hH (ext_trans HXV.o HXV5.o);have HDO5:=hH (fun(W:World) (hx:Ext W5 W)=>HDO.o W (ext_trans HXV5.o hx));clear eW5 p0 p1 x0 x1 hrV hoV HXV HX5 HX55 HW5 HST HWX HDO HWNV p5_0 p5_1 o5_0 o5_1 hz5 hr5 ho5;generalize w5.heap.size=yq at *;go_cut [7,8] from 24 to 31 (fun s7 s8 wx=>s8= .int .i64 0∧∃(zb_:Nat) (za:Option Addr) (zc:Nat) (zb:Option Addr) (zm zk:Nat),s7= .pointer (some ⟨zb_,0,none⟩)∧wx.cell? ⟨zb_,0,none⟩=some (.slice za 2 zc)∧Hid (RWd (fun _=>True) wx (.slice za 2 zc) (.slice zb zm zk) wbZ)∧Hid (Ext W5 wx))
  case first=>
   go_region_law (first
    |(go_simp;go_at_call 68;go_must ((with_reducible refine(Vev _).mono ?_);rintro e w6 ⟨g6,rfl,hh6,hc6,hx6⟩;(try(refine Veb (T:=(w6.cell? ⟨W5.heap.size,0,none⟩=some (.slice none 0 0)∧w6.cell? ⟨W5.heap.size,1,none⟩=some (.slice none 0 0))∧(w6.frozen? ⟨W5.heap.size,0,none⟩=false∧w6.frozen? ⟨W5.heap.size,1,none⟩=false)∧W5.heap.size<w6.heap.size) ?_ (fun nb=> ?_);(focus(refine Vg5 hx6 ?_ ?_ ?_ ?_ ?_;(all_goals (first|(with_reducible assumption)|omega|(go_simp;done)|(simp;done)|(simp;omega;done)));done));obtain⟨⟨nb0,nb1⟩,⟨ng0,ng1⟩,nbz⟩:=nb));obtain⟨q6_0,q6_1⟩:=cC2 hx6 (rb) (.slice na 2 nc) (.slice nb nm nk);have hz6:=hx6.size;(try simp at hz6);have hr6:=zL hx6 rb;have HX6:=xY W5 hx6;have HH6:=hH hh6;have HC6:=hH hc6;clear hh6 hx6;have y6_0:=HC6.o 0 _ rfl;have y6_1:=HC6.o 1 _ rfl;have y6_2:=HC6.o 2 _ rfl;have y6_3:=HC6.o 3 _ rfl;have y6_4:=HC6.o 4 _ rfl;have y6_5:=HC6.o 5 _ rfl;have hg6:g6<w6.heap.size:=World.block_lt_of_cell? _ _ y6_0))
    |(go_simp;go_at_call 16;go_must ((with_reducible refine(HDO5.o _ (ext_trans HX6.o Qac)).mono ?_);rintro e w7 ⟨za,zn,zc,zb,zm,zk,rfl,hw7,hx7⟩;(try(refine Veb (T:=(w7.cell? ⟨w6.heap.size,0,none⟩=some (.slice none 0 0)∧w7.cell? ⟨w6.heap.size,1,none⟩=some (.slice none 0 0))∧(w7.frozen? ⟨w6.heap.size,0,none⟩=false∧w7.frozen? ⟨w6.heap.size,1,none⟩=false)∧w6.heap.size<w7.heap.size) ?_ (fun nb=> ?_);(focus(refine Vg5 hx7 ?_ ?_ ?_ ?_ ?_;(all_goals (first|(with_reducible assumption)|omega|(go_simp;done)|(simp;done)|(simp;omega;done)));done));obtain⟨⟨nb0,nb1⟩,⟨ng0,ng1⟩,nbz⟩:=nb));(try(refine Veb (T:=(w7.cell? ⟨W5.heap.size,0,none⟩=some (.slice none 0 0)∧w7.cell? ⟨W5.heap.size,1,none⟩=some (.slice none 0 0))∧(w7.frozen? ⟨W5.heap.size,0,none⟩=false∧w7.frozen? ⟨W5.heap.size,1,none⟩=false)∧W5.heap.size<w7.heap.size) ?_ (fun nb=> ?_);(focus(refine Vg5 hx7 ?_ ?_ ?_ ?_ ?_;(all_goals (first|(with_reducible assumption)|omega|(go_simp;done)|(simp;done)|(simp;omega;done)));done));obtain⟨⟨nb0,nb1⟩,⟨ng0,ng1⟩,nbz⟩:=nb));obtain rfl:zn=2:=hw7.1.len.1.trans Vlu;have HW7:=hH hw7;have HX7:=xX HX6 hx7;have hs7:w6.heap.size≤w7.heap.size:=(show Ext w6 w7 from ext_trans Qac hx7).size;have hs6:W5.heap.size≤w6.heap.size:=HX6.o.size;clear hw7 hx7)))
   all_goals (go_wp2_with fail;go_meet)
   all_goals
    have hX7:=HX7.o;refine⟨rfl,_,za,zc,zb,zm,zk,rfl,by first|(with_reducible assumption)|go_simp,hH ?_,hH ?_⟩
    ·first
      |exact(HW7.o.keep (by repeat(first|(with_reducible exact Qag)|(with_reducible refine Qa1 ?_ _)|(with_reducible refine Qbh ?_)|(refine Qae ?_ (by intro _ h;have h':=h;first|(simp at h';done)|(simp at h';omega)|omega) _)))).all
      |exact(HW7.o.ext Qac).all
    ·exact Qac
  case rest=>
   obtain⟨rfl,zb_,za,zc,zb,zm,zk,rfl,z0,HWZ,HXC⟩:=hcut;obtain⟨U,eU⟩:∃W:World,W=wc:=⟨wc,rfl⟩;subst eU;have HXU:=hH (ext_trans HXW5.o HXC.o);have HYU:=hH (HWY.o.ext HXC.o);have hxu:=HWX5.o.ext HXC.o;obtain rfl:xm=1:=hxu.2.len.1.trans Vlp;obtain⟨g1,q1,k1,a11,n11,c11,a12,n12,c12,a13,n13,c13,a14,n14,c14,a15,n15,c15,e1,hg1,hk1,_,hd1,_,m1,_⟩:=Vec hxu.1 (i:=1) dC;obtain⟨g0,q0,k0,a01,n01,c01,a02,n02,c02,a03,n03,c03,a04,n04,c04,a05,n05,c05,e0,hg0,hk0,_,hd0,_,_,_,_,_,_,m0,_⟩:=Vec hxu.1 (i:=0) dC;subst e1;injection e0 with e0
   injection e0 with e0 e00
   subst e0 e00;obtain⟨g2,q2,k2,a21,n21,c21,a22,n22,c22,a23,n23,c23,a24,n24,c24,a25,n25,c25,e2,hg2,hk2,_,hd2,_,_,_,_,_,_,m2,_⟩:=Vec HWZ.o.1 (i:=0) dC;subst e2;obtain rfl:n05=0:=(Vea hd0).2.2.2.2.len.1.trans (Vlg Vls hk0);obtain rfl:n25=1:=(Vea hd2).2.2.2.2.len.1.trans (Vlg Vlt hk2);have HTX:=hH (fun(W:World) (hx:Ext U W)=>(show Calls Tryz.prog 69 #[.slice a11 n11 c11] W (fun e w'=>e= .returned (.string ⟨#[104,105]⟩)∧Ext W w') from Vk3 ((Vea hd1).1.ext gAt hx) (Vlm Vlv hk1)));have HCK:=hH (fun(W:World) (hx:Ext U W)=>(show Calls Tryz.prog 20 #[.agg #[.slice ya yn yc,.slice yb ym yk]] W (fun e w'=>e= .returned (.int .i64 0)∧Ext W w') from by have h:=Vef (HYU.o.ext hx);rw[Vlw] at h;exact h));obtain⟨u0,u1⟩:=tT2 HXC.o ho5' o0 o1;obtain⟨u2,u3⟩:=tT2 HXC.o hy5 b0 b1;have hoU:ob<U.heap.size:=Nat.lt_of_lt_of_le ho5' HXC.o.size;have hyU:yq<U.heap.size:=Nat.lt_of_lt_of_le hy5 HXC.o.size;have hzU:zb_<U.heap.size:=World.block_lt_of_cell? _ _ z0;clear hd1 hd0 hd2 hk1 hk0 hk2 hxu HWZ HYU HXC HWX5 HXW5 HWY HDO5 b0 b1 t0 t1 o0 o1 hr5' ho5' hy5;simp only[Nat.zero_mul,Nat.add_zero,Nat.one_mul] at m1 m0 m2;go_wp2_with (first|(go_at_call 20;go_must ((with_reducible refine(HCK.o _ Qac).mono ?_);rintro e w8 ⟨rfl,hx8⟩;obtain⟨u8,v8⟩:=cC2 hx8 (ob) (.slice (some ⟨g1,q1,none⟩) 2 xc) (.slice xb 1 xk);have z8:=hx8.cl (zb_) (0) (.slice (some ⟨g2,q2,none⟩) 2 zc);have m8:=hx8.cl (g1) (q1+8+1) (.slice a11 n11 c11);have n8:=hx8.cl (g1) (q1+6) (.slice a05 0 c05);have l8:=hx8.cl (g2) (q2+6) (.slice a25 1 c25);have hz8:=hx8.size;(try simp at hz8);have hob8:=zL hx8 ob;have hzb_8:=zL hx8 zb_;have hg18:=zL hx8 g1;have hg28:=zL hx8 g2;have HX8:=xY U hx8;clear hx8))|(go_at_call 69;go_must ((with_reducible refine(HTX.o _ (ext_trans HX8.o Qac)).mono ?_);rintro e w9 ⟨rfl,hx9⟩;obtain⟨u9,v9⟩:=cC2 hx9 (ob) (.slice (some ⟨g1,q1,none⟩) 2 xc) (.slice xb 1 xk);have z9:=hx9.cl (zb_) (0) (.slice (some ⟨g2,q2,none⟩) 2 zc);have m9:=hx9.cl (g1) (q1+8+1) (.slice a11 n11 c11);have n9:=hx9.cl (g1) (q1+6) (.slice a05 0 c05);have l9:=hx9.cl (g2) (q2+6) (.slice a25 1 c25);have hz9:=hx9.size;(try simp at hz9);have hob9:=zL hx9 ob;have hzb_9:=zL hx9 zb_;have hg19:=zL hx9 g1;have hg29:=zL hx9 g2;have HXZ:=xX HX8 hx9;clear hx9)))
   go_ret;exact⟨rfl,ext_trans HXU.o (ext_trans HXZ.o Qac)⟩
theorem Viw {F:Nat→Prop} {w:World} {u:Value} {x:Wd} {a:Option Addr} {n c:Nat} (h:RWd F w (.slice a n c) u x) (hx:x=noW):n=0:=by
 subst hx;exact h.1.len.1
theorem Vhr {p:Prop} (h:p:=by
 go_enter Tryz.func12,Tryz.ntmps12;go_wp2_with (first
  |(go_at_call 63;go_must ((with_reducible refine(HRU.o _ Qac).mono ?_);rintro e w1 ⟨xa,xn,xc,xb,xm,xk,rfl,hw1,hx1⟩;obtain⟨p1_0,p1_1⟩:=cC2 hx1 (w.heap.size) (.slice av an ac) (.slice bv bn bc);have f1_0:=fL hx1 (w.heap.size) 0;have f1_1:=fL hx1 (w.heap.size) 1;have hz1:=hx1.size;(try simp at hz1);have hq1:=zL hx1 w.heap.size;obtain rfl:xn=0:=Viw hw1 HN.o;have HX1:=xY w hx1;have HW1:=hH hw1;clear hw1 hx1))
  |(go_at_call 17;go_must ((with_reducible refine(HCW.o _ (ext_trans HX1.o Qac)).mono ?_);rintro e w2 ⟨rfl,hx2⟩;obtain⟨p2_0,p2_1⟩:=cC2 hx2 (w.heap.size) (.slice av an ac) (.slice bv bn bc);obtain⟨x2_0,x2_1⟩:=cC2 hx2 (w1.heap.size) (.slice xa 0 xc) (.slice xb xm xk);have f2_0:=fL hx2 (w.heap.size) 0;have f2_1:=fL hx2 (w.heap.size) 1;have hz2:=hx2.size;(try simp at hz2);have hq2:=zL hx2 w.heap.size;have hr2:=zL hx2 w1.heap.size;have HX2:=xX HX1 hx2;have HX21:=xY w1 hx2;clear hx2))
  |(go_at_call 19;go_must ((with_reducible refine(Vew _).mono ?_);rintro e w3 ⟨rfl,hx3⟩;obtain⟨p3_0,p3_1⟩:=cC2 hx3 (w.heap.size) (.slice av an ac) (.slice bv bn bc);obtain⟨x3_0,x3_1⟩:=cC2 hx3 (w1.heap.size) (.slice xa 0 xc) (.slice xb xm xk);have f3_0:=fL hx3 (w.heap.size) 0;have f3_1:=fL hx3 (w.heap.size) 1;have hz3:=hx3.size;(try simp at hz3);have hq3:=zL hx3 w.heap.size;have hr3:=zL hx3 w1.heap.size;have HX3:=xX HX2 hx3;have HX31:=xX HX21 hx3;clear hx3)))
 go_ret;exact⟨rfl,ext_trans HX3.o Qac⟩):p:=h
theorem Vgh {w:World} {cs:List Value} {vl:Value} {x:Wd} {l:List Hap} (h:RWw (fun _=>True) w cs x) (hl:RSl RHp 6 (fun _=>True) w vl l):
  Calls Tryz.prog 12 #[.agg cs.toArray,vl] w fun e w'=>e= .returned (.bool true)∧Ext w w':=by
 obtain⟨v,u,rfl,h⟩:=h;have HRU:=hH (fun(W:World) (hx:Ext w W)=>Vhg (h.ext hx) (hl.ext gHp hx));have HCW:=hH (fun(W:World) (hx:Ext w W)=>Vfx (h.ext hx));have HLI:=hH (fun(W:World) (hx:Ext w W)=>hl.ext gHp hx);have HPW:=hH (fun(W:World) (hx:Ext w W)=>(h.more (G:=fun k=>k<w.heap.size) (fun _ _ h=>h)).ext hx);obtain⟨av,an,ac,rfl⟩:=h.1.slice;obtain⟨bv,bn,bc,rfl⟩:=h.2.slice;obtain⟨ha,hn,hc,rfl⟩:=hl.slice;obtain rfl:hn=l.length:=hl.len.1;have hlm:=hl.len.2;clear h hl;obtain⟨er,her⟩:∃q,Vgc x l=q:=⟨_,rfl⟩;obtain⟨xr,hxr⟩:∃q,Vhy x l=q:=⟨_,rfl⟩;rw[her,hxr] at HRU;by_cases hw:Vd8 x=0
 ·by_cases h80:80<l.length
  ·have HE:=hH (show er=2 from her.symm.trans (Vft hw h80));have HN:=hH (show xr=noW from by rw[←hxr];exact Veu (by rw[Vft hw h80];decide));have t1:decide (80<(l.length:Int))=true:=decide_eq_true oM;rw[hw] at HCW;rw[HE.o] at HRU;clear hw h80 her hxr HLI HPW;exact Vhr
  ·have HE:=hH (show er=Vhx x l from her.symm.trans (Vhw hw h80));have HV:=hH (fun(e:er=0)=>(show xr=Vjf x l from hxr.symm.trans (Vi6 (her.trans e))));have HVB:=hH (fun(e:¬er=0)=>(show xr=noW from hxr.symm.trans (Veu (by rw[her];exact e))));have HRX:=hH (checkW_ok.1 hw);have t1:decide (80<(l.length:Int))=false:=decide_eq_false oM;have hl80:l.length≤80:=oM;rw[hw] at HCW;clear hw h80 her hxr hlm;go_enter Tryz.func12,Tryz.ntmps12;go_upto_region 9 with(first|(go_at_call 63;go_must ((with_reducible refine(HRU.o _ Qac).mono ?_);rintro e w1 ⟨xa,xn,xc,xb,xm,xk,rfl,hw1,hx1⟩;obtain⟨p1_0,p1_1⟩:=cC2 hx1 (w.heap.size) (.slice av an ac) (.slice bv bn bc);have f1_0:=fL hx1 (w.heap.size) 0;have f1_1:=fL hx1 (w.heap.size) 1;have hz1:=hx1.size;(try simp at hz1);have hq1:=zL hx1 w.heap.size;have HX1:=xY w hx1;have HW1:=hH hw1;clear hw1 hx1))|(go_at_call 17;go_must ((with_reducible refine(HCW.o _ (ext_trans HX1.o Qac)).mono ?_);rintro e w2 ⟨rfl,hx2⟩;obtain⟨p2_0,p2_1⟩:=cC2 hx2 (w.heap.size) (.slice av an ac) (.slice bv bn bc);obtain⟨x2_0,x2_1⟩:=cC2 hx2 (w1.heap.size) (.slice xa xn xc) (.slice xb xm xk);have f2_0:=fL hx2 (w.heap.size) 0;have f2_1:=fL hx2 (w.heap.size) 1;have hz2:=hx2.size;(try simp at hz2);have hq2:=zL hx2 w.heap.size;have hr2:=zL hx2 w1.heap.size;have HX2:=xX HX1 hx2;have HX21:=xY w1 hx2;clear hx2))|(go_at_call 19;go_must ((with_reducible refine(Vew _).mono ?_);rintro e w3 ⟨rfl,hx3⟩;obtain⟨p3_0,p3_1⟩:=cC2 hx3 (w.heap.size) (.slice av an ac) (.slice bv bn bc);obtain⟨x3_0,x3_1⟩:=cC2 hx3 (w1.heap.size) (.slice xa xn xc) (.slice xb xm xk);have f3_0:=fL hx3 (w.heap.size) 0;have f3_1:=fL hx3 (w.heap.size) 1;have hz3:=hx3.size;(try simp at hz3);have hq3:=zL hx3 w.heap.size;have hr3:=zL hx3 w1.heap.size;have HX3:=xX HX2 hx3;have HX31:=xX HX21 hx3;clear hx3)))
   have HXR0:=hH ((HW1.o.more (G:=fun k=>k≠w.heap.size) (fun k hk _ e=>by have h1:w.heap.size<k:=Nat.lt_of_lt_of_le ltA hk;omega)).ext (show Ext w1 _ from ext_trans HX31.o Qac));have HYR0:=hH ((HPW.o _ (ext_trans HX3.o Qac)).more (G:=fun k=>k≠w.heap.size) (fun k hk _ e=>by have hk':k<w.heap.size:=hk;omega));have HXW0:=hH (show Ext w _ from ext_trans HX3.o Qac);obtain⟨xq,hxq⟩:∃q,w1.heap.size=q:=⟨_,rfl⟩;rw[hxq] at x3_0 x3_1 hr3;rw[hxq];have hqx:w.heap.size<xq:=oM;clear hxq p1_0 p1_1 f1_0 f1_1 p2_0 p2_1 f2_0 f2_1 x2_0 x2_1 HX1 HX2 HX21 HX31 HCW HPW HRU hz1 hz2 hz3 hq1 hq2 hr2 HW1;go_wp2_with fail
   go_loopw [8] (fun iv wr=>∃(k:Nat) (y:Wd) (ca:Option Addr) (cn cc:Nat) (cb:Option Addr) (cm ck:Nat),k≤l.length∧iv= .int .i64 k∧wr.cell? ⟨w.heap.size,0,none⟩=some (.slice ca cn cc)∧wr.cell? ⟨w.heap.size,1,none⟩=some (.slice cb cm ck)∧wr.frozen? ⟨w.heap.size,0,none⟩=false∧wr.frozen? ⟨w.heap.size,1,none⟩=false∧wr.cell? ⟨xq,0,none⟩=some (.slice xa xn xc)∧wr.cell? ⟨xq,1,none⟩=some (.slice xb xm xk)∧Hid (Vhx x l=Vhx y (l.drop k)∧Vjf x l=Vjf y (l.drop k)∧RightX y)∧Hid (RWd (fun k=>k≠w.heap.size) wr (.slice ca cn cc) (.slice cb cm ck) y)∧Hid (RWd (fun k=>k≠w.heap.size) wr (.slice xa xn xc) (.slice xb xm xk) xr)∧Hid (Ext w wr)) (fun iv _=>l.length-(intOf iv).toNat)
   case atStart=>exact⟨0,x,_,_,_,_,_,_,Nat.zero_le _,rfl,by first|(with_reducible assumption)|go_simp,by first|(with_reducible assumption)|go_simp,by first|(with_reducible assumption)|go_simp,by first|(with_reducible assumption)|go_simp,by first|(with_reducible assumption)|go_simp,by first|(with_reducible assumption)|go_simp,hH ⟨rfl,rfl,HRX.o⟩,HYR0,HXR0,HXW0⟩
   case round=>
    clear HXR0 HYR0 HXW0 HX3 p3_0 p3_1 f3_0 f3_1 x3_0 x3_1 hq3 hr3;obtain⟨k,y,ca,cn,cc,cb,cm,ck,hk,rfl,p0,p1,f0,f1,x0,x1,HY,HYR,HXR,HX⟩:=hrel;have hpr:w.heap.size<wr.heap.size:=World.block_lt_of_cell? _ _ p0;have hxr':xq<wr.heap.size:=World.block_lt_of_cell? _ _ x0;by_cases hlt:k<l.length
    ·obtain⟨b,o,h,ea,hbz,ek,y0,y1,y2,y3,y4,y5⟩:=Vki (HLI.o wr HX.o) hlt;subst ea;have hwy:=checkW_ok.2 HY.o.2.2;obtain⟨hs1,hs2⟩:=Vgx (x:=y) ek;have HDO:=hH (fun(W:World) (hx:Ext wr W)=>Vfn (h:=h) (HYR.o.ext hx) (by have h1:=(HLI.o wr HX.o).at_ hlt;obtain⟨_,_,h',cs',_,_,e3,_,_,_,i1⟩:=h1;rw[ek] at e3;obtain rfl:=Option.some.inj e3;exact i1));obtain⟨eh,heh⟩:∃q,Vfa y.clients.length h=q:=⟨_,rfl⟩;rw[Vhv hwy,heh] at HDO;obtain⟨y',hy'⟩:∃q,Vhy y [h]=q:=⟨_,rfl⟩;rw[hy'] at HDO;have HS:=hH (And.intro hs1 (And.intro hs2 (And.intro heh (And.intro hy' hwy))));clear hs1 hs2 heh hy' hwy ek;go_upto_region 12 with fail
     go_cut [9,10] from 45 to 53 (fun s9 s10 wx=>s10= .int .i64 eh∧∃(ob:Nat) (ya:Option Addr) (yn yc:Nat) (yb:Option Addr) (ym yk:Nat),s9= .pointer (some ⟨ob,0,none⟩)∧wx.cell? ⟨ob,0,none⟩=some (.slice ya yn yc)∧wx.cell? ⟨ob,1,none⟩=some (.slice yb ym yk)∧Hid (RWd (fun k=>k≠w.heap.size) wx (.slice ya yn yc) (.slice yb ym yk) y')∧Hid (Ext wr wx))
     case first=>
      go_region_law (first|(go_simp;go_at_call 16;go_must ((with_reducible refine(HDO.o _ Qac).mono ?_);rintro e w5 ⟨ya,yn,yc,yb,ym,yk,rfl,hw5,hx5⟩;(try(refine Veb (T:=(w5.cell? ⟨wr.heap.size,0,none⟩=some (.slice none 0 0)∧w5.cell? ⟨wr.heap.size,1,none⟩=some (.slice none 0 0))∧(w5.frozen? ⟨wr.heap.size,0,none⟩=false∧w5.frozen? ⟨wr.heap.size,1,none⟩=false)∧wr.heap.size<w5.heap.size) ?_ (fun nb=> ?_);(focus(refine Vg5 hx5 ?_ ?_ ?_ ?_ ?_;(all_goals (first|(with_reducible assumption)|omega|(go_simp;done)|(simp;done)|(simp;omega;done)));done));obtain⟨⟨nb0,nb1⟩,⟨ng0,ng1⟩,nbz⟩:=nb));obtain⟨p5_0,p5_1⟩:=cC2 hx5 (w.heap.size) (.slice ca cn cc) (.slice cb cm ck);obtain⟨x5_0,x5_1⟩:=cC2 hx5 (xq) (.slice xa xn xc) (.slice xb xm xk);have f5_0:=fL hx5 (w.heap.size) 0;have f5_1:=fL hx5 (w.heap.size) 1;have hz5:=hx5.size;(try simp at hz5);have hq5:=zL hx5 w.heap.size;have hr5:=zL hx5 xq;have HW5:=hH hw5;have HX5:=xY wr hx5;clear hw5 hx5)))
      all_goals (go_wp2_with fail;go_meet)
      all_goals
       have hX5:=HX5.o;have hs5:=hX5.size;refine⟨rfl,_,ya,yn,yc,yb,ym,yk,rfl,by first|(with_reducible assumption)|go_simp,by first|(with_reducible assumption)|go_simp,hH ?_,hH ?_⟩
       ·first
        |exact(HW5.o.keep (by repeat(first|(with_reducible exact Qag)|(with_reducible refine Qa1 ?_ _)|(with_reducible refine Qbh ?_)|(refine Qae ?_ (by intro _ h;have h':=h;first|(simp at h';done)|(simp at h';omega)|omega) _)))).more (fun k hk _ e=>by have h1:w.heap.size<k:=Nat.lt_of_lt_of_le ltA hk;omega)
        |exact(HW5.o.ext Qac).more (fun k hk _ e=>by have h1:w.heap.size<k:=Nat.lt_of_lt_of_le ltA hk;omega)
       ·exact Qac
     case rest=>
      obtain⟨rfl,ob,ya,yn,yc,yb,ym,yk,rfl,b0,b1,HYN,HXC⟩:=hcut;obtain⟨r0,r1⟩:=tT2 HXC.o hpr p0 p1;obtain⟨r2,r3⟩:=fF2 HXC.o hpr f0 f1;obtain⟨r4,r5⟩:=tT2 HXC.o hxr' x0 x1;have hpc:w.heap.size<wc.heap.size:=Nat.lt_of_lt_of_le hpr HXC.o.size;have hqc:xq<wc.heap.size:=Nat.lt_of_lt_of_le hxr' HXC.o.size;have hoc:ob<wc.heap.size:=World.block_lt_of_cell? _ _ b0;clear y0 y1 y2 y3 y4 y5 p0 p1 f0 f1 x0 x1;by_cases h0:eh=0
      ·have t2:(eh !=0)=false:=by simp[h0]
       have HYD:=hH (show y'=doW y h from HS.o.2.2.2.1.symm.trans (Vj7 HS.o.2.2.2.2 (HS.o.2.2.1.trans h0)));have HFS:=hH (show Vhx y (l.drop k)=Vhx (doW y h) (l.drop (k+1)) from by rw[HS.o.1,HS.o.2.2.1,h0,if_neg sI]);have HRY:=hH (Vgo HY.o.2.2 (HS.o.2.2.1.trans h0));have hxw:Ext w wc:=ext_trans HX.o HXC.o;clear h0;go_wp2_with fail
       go_roundw
       case rel=>exact⟨k+1,doW y h,ya,yn,yc,yb,ym,yk,hlt,by go_num,gS,gS,gS,gS,gS,gS,hH ⟨HY.o.1.trans HFS.o,HY.o.2.1.trans HS.o.2.1,HRY.o⟩,hH (by rw[←HYD.o];exact HYN.o.keep (by repeat(first|(with_reducible exact Qag)|(with_reducible refine Qbh ?_)|(with_reducible refine Qae ?_ (fun _ h=>absurd rfl h) _)))),hH ((HXR.o.ext HXC.o).keep (by repeat(first|(with_reducible exact Qag)|(with_reducible refine Qbh ?_)|(with_reducible refine Qae ?_ (fun _ h=>absurd rfl h) _)))),hH Qac⟩
       case measure=>simp[intOf];omega
      ·have t2:(eh !=0)=true:=by simpa using h0
       have hee:er=eh:=by rw[HE.o,HY.o.1,HS.o.1,HS.o.2.2.1,if_pos h0]
       have hx0:xn=0:=Viw HXR.o (HVB.o (by rw[hee];exact h0));subst hx0;have t3:(er==eh)=true:=by simp[hee]
       have hxw:Ext w wc:=ext_trans HX.o HXC.o;clear h0 hee;go_wp2_with fail
       go_ret;exact⟨rfl,Qac⟩
    ·obtain rfl:k=l.length:=oM;have he0:er=0:=by rw[HE.o,HY.o.1,List.drop_length];rfl
     have hxy:xr=y:=by rw[HV.o he0,HY.o.2.1,List.drop_length];rfl
     subst hxy;have t3:(er==0)=true:=by simp[he0]
     clear he0;go_wp2_with (first|(go_at_call 64;go_must ((with_reducible refine(Vge (HXR.o.ext Qac) (HYR.o.ext Qac)).mono ?_);rintro e w6 ⟨rfl,hx6⟩;have HX6:=xY wr hx6;clear hx6)))
     go_ret;exact⟨rfl,ext_trans HX.o (ext_trans HX6.o Qac)⟩
 ·have HE:=hH (show er=Vd8 x from her.symm.trans (Vgd hw));have HN:=hH (show xr=noW from by rw[←hxr];exact Veu (by rw[Vgd hw];exact hw));obtain⟨ec,hec⟩:∃q,Vd8 x=q:=⟨_,rfl⟩;rw[HE.o,hec] at HRU;rw[hec] at HCW;have t1:(ec==0)=false:=by rw[beq_eq_false_iff_ne,←hec];exact hw
  have t2:(ec !=0)=true:=by simpa using (show¬ec=0 by rw[←hec];exact hw)
  clear hw her hxr hec HE HLI HPW;exact Vhr
end Go.Proofs.YtgnccjojfebkeaaGreat
