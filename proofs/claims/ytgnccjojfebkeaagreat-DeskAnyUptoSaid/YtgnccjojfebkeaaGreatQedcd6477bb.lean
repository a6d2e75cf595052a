/- DeskAny, walked, where the lists are not too long. -/
import Derived.Test.YtgnccjojfebkeaaGreatQf8a196d56c
import Derived.Test.YtgnccjojfebkeaaGreatQe7ae9feb46
import Derived.Test.YtgnccjojfebkeaaGreatQe1689ae885
import Derived.Test.YtgnccjojfebkeaaGreatQ67e18446e6
import Derived.Test.YtgnccjojfebkeaaGreatQ05c48fb51f
import Derived.Test.YtgnccjojfebkeaaGreatQ982015a309
import Derived.Test.YtgnccjojfebkeaaGreatQeaca64021a
import Derived.Test.YtgnccjojfebkeaaGreatQb497ca1fba
import Derived.BigRegion
import Derived.Deep.RegionLaw
import Derived.Deep.Cut
import Derived.Test.YtgnccjojfebkeaaGreatQ32d737f019
import Derived.Test.YtgnccjojfebkeaaGreatQ1fe29ed50b
set_option linter.unusedVariables false
set_option linter.unusedSimpArgs false
set_option maxRecDepth 100000
set_option maxHeartbeats 4000000
namespace Go.Proofs.YtgnccjojfebkeaaGreat
open Go Go.RowKit Go.BigFrame Cp
def Veu (n m:No):Bool:=(m.site==n.site) && (m.number==n.number)
theorem keyN_iff {n m:No}:Veu n m=true↔m.site=n.site∧m.number=n.number:=by unfold Veu;simp
theorem Ve0:Vek []:=fun m hm=>(by cases hm)
theorem Vet {l:List No} {n:No} (h:Vek l) (hn:l.any (Veu n)=false):Vek (l++[n]):=by
 have h0:∀m∈l,¬(m.site=n.site∧m.number=n.number):=fun m hm e=>by
  have:=List.any_eq_false.1 hn m hm;exact this (keyN_iff.2 e)
 intro a ha b hb h1 h2;rcases List.mem_append.1 ha with ka|ka<;>rcases List.mem_append.1 hb with kb|kb
 ·exact h a ka b kb h1 h2
 ·have e:=List.mem_singleton.1 kb;rw[e] at h1 h2;exact absurd ⟨h1,h2⟩ (h0 a ka)
 ·have e:=List.mem_singleton.1 ka;rw[e] at h1 h2;exact absurd ⟨h1.symm,h2.symm⟩ (h0 b kb)
 ·rw[List.mem_singleton.1 ka,List.mem_singleton.1 kb]
theorem Ve9 {l:List No} {f:No→Bool} {k:Nat} {m:No} (h:l[k]?=some m):(l.take (k+1)).any f=((l.take k).any f ||f m):=by
 obtain⟨h1,h2⟩:=List.getElem?_eq_some_iff.1 h;rw[List.take_succ_eq_append_getElem h1,h2,List.any_append];simp
theorem Ve4 {a:Nat} (h:a≤1048576):a+1≤maxLen:=Nat.le_trans (by omega:a+1≤1048577) (by unfold maxLen;decide)
theorem Ve3 {a:Nat} (h:a≤1048576):(a+1) * 64≤140737488355328:=oM
theorem Vfp {a b:Nat} (h:a≤1048576) (k:b≤1048576):a+b≤maxLen:=Nat.le_trans (by omega:a+b≤2097152) (by unfold maxLen;decide)
theorem Vfo {a b:Nat} (h:a≤1048576) (k:b≤1048576):(a+b) * 64≤140737488355328:=oM
theorem Ved {d e:Dk} {P:List No} {i:Nat} {n:No} (h:P[i]?=some n) (hr:Vd7 d (P.take i)=some e) (h0:Q3r e n=0):Vd7 d (P.take (i+1))=some (Van e n):=by
 rw[Vee h,hr];simp[h0]
theorem Vfm {F:Nat→Prop} {w:World} {a:Option Addr} {n cap:Nat} {q:List Int} (h:RSl Qe1 1 F w (.slice a n cap) q) {i:Nat} (hi:i<n):
  ∃b o x,a=some ⟨b,o,none⟩∧b<w.heap.size∧q[i]?=some x∧I64 x∧w.cell? ⟨b,o+i,none⟩=some (.int .i64 x):=by
 obtain⟨b,o,x,cs,e1,e2,e3,_,e4,⟨rfl,i1⟩⟩:=h.at_ hi;exact⟨b,o,x,e1,e2,e3,i1,by simpa using e4 0 _ rfl⟩
theorem Vez {F:Nat→Prop} {w:World} {b:Nat} (hF:¬F b) (u0 u1 u2 u3 u4 u5 u6:Value):Keeps F w (((((((w.setCell ⟨b,0,none⟩ u0).setCell ⟨b,1,none⟩ u1).setCell ⟨b,2,none⟩ u2).setCell ⟨b,3,none⟩ u3).setCell ⟨b,4,none⟩ u4).setCell ⟨b,5,none⟩ u5).setCell ⟨b,6,none⟩ u6):=
 Qae (Qae (Qae (Qae (Qae (Qae (Qae Qag (fun _=>hF) _) (fun _=>hF) _) (fun _=>hF) _) (fun _=>hF) _) (fun _=>hF) _) (fun _=>hF) _) (fun _=>hF) _
theorem Vfv {a w:World} {b:Nat} (h:Ext a w) (hb:a.heap.size≤b) (u0 u1 u2 u3 u4 u5 u6:Value):Ext a (((((((w.setCell ⟨b,0,none⟩ u0).setCell ⟨b,1,none⟩ u1).setCell ⟨b,2,none⟩ u2).setCell ⟨b,3,none⟩ u3).setCell ⟨b,4,none⟩ u4).setCell ⟨b,5,none⟩ u5).setCell ⟨b,6,none⟩ u6):=
 ext_set (ext_set (ext_set (ext_set (ext_set (ext_set (ext_set h hb _) hb _) hb _) hb _) hb _) hb _) hb _
theorem DkAt.oth7 {F:Nat→Prop} {b c:Nat} {d:Dk} {w:World} {va vg vs vw vo:Value} (h:DkAt F b d w va vg vs vw vo) (hb:c≠b) (hF:¬F c) (u0 u1 u2 u3 u4 u5 u6:Value):DkAt F b d (((((((w.setCell ⟨c,0,none⟩ u0).setCell ⟨c,1,none⟩ u1).setCell ⟨c,2,none⟩ u2).setCell ⟨c,3,none⟩ u3).setCell ⟨c,4,none⟩ u4).setCell ⟨c,5,none⟩ u5).setCell ⟨c,6,none⟩ u6) va vg vs vw vo:=
 ((((((h.oth hb hF _).oth hb hF _).oth hb hF _).oth hb hF _).oth hb hF _).oth hb hF _).oth hb hF _
theorem Zbj {p:Prop} (h:p:=by
 refine Qaa fol kR (fun hlater=> ?_);repeat(go_big_quiet_step ((fail)))
 refine wpQuiet_nil ?_;rintro w5 ⟨⟨w5x,hx5⟩,rfl⟩;clear hlater;go_wp2_with fail
 go_roundw
 case rel=>exact⟨j+1,hjl,by go_num,hH (by rw[HNX.o,HTW.o,HKK.o];rfl),hH (ext_trans HXJ.o (ext_trans hx5 Qac))⟩
 case measure=>simp[intOf];omega):p:=h
theorem Zbi {p:Prop} (h:p:=by
 clear HRX;have hFw:¬(wr.heap.size≠wr.heap.size∧wr.heap.size≠bA∧wr.heap.size≠bB):=fun h=>h.1 rfl
 go_region_law (first|(go_simp;go_at_call 31;go_must ((with_reducible refine(HRU.o _ Qac).mono ?_);rintro e w9 ⟨pa1,pn1,pc1,pa2,pn2,pc2,pa3,pn3,pc3,pa4,pn4,pc4,pa5,pn5,pc5,rfl,hd9,hx9⟩;(try(refine Veh (T:=(w9.cell? ⟨wr.heap.size,0,none⟩=some (.int .i64 0)∧w9.cell? ⟨wr.heap.size,1,none⟩=some (.slice none 0 0)∧w9.cell? ⟨wr.heap.size,2,none⟩=some (.slice none 0 0)∧w9.cell? ⟨wr.heap.size,3,none⟩=some (.slice none 0 0)∧w9.cell? ⟨wr.heap.size,4,none⟩=some (.slice none 0 0)∧w9.cell? ⟨wr.heap.size,5,none⟩=some (.int .i64 0)∧w9.cell? ⟨wr.heap.size,6,none⟩=some (.slice none 0 0))∧(w9.frozen? ⟨wr.heap.size,0,none⟩=false∧w9.frozen? ⟨wr.heap.size,1,none⟩=false∧w9.frozen? ⟨wr.heap.size,2,none⟩=false∧w9.frozen? ⟨wr.heap.size,3,none⟩=false∧w9.frozen? ⟨wr.heap.size,4,none⟩=false∧w9.frozen? ⟨wr.heap.size,5,none⟩=false∧w9.frozen? ⟨wr.heap.size,6,none⟩=false)∧(∀o,w9.frozen? ⟨wr.heap.size,o,none⟩=false)∧wr.heap.size<w9.heap.size) ?_ (fun nb=> ?_);(focus(refine Vfu hx9 ?_ ?_ ?_ ?_ ?_ ?_ ?_ ?_ (fun o=> ?_);(all_goals (first|(with_reducible assumption)|omega|(go_simp;done)|(simp;done)|(simp;omega;done)));done));obtain⟨⟨nb0,nb1,nb2,nb3,nb4,nb5,nb6⟩,⟨ng0,ng1,ng2,ng3,ng4,ng5,ng6⟩,nbf,nbz⟩:=nb));have HX9:=xY wr hx9;have HD9:=hH hd9;clear hd9 hx9)))
 all_goals (go_wp2_with fail;go_meet)
 all_goals
  refine⟨rfl,_,(.slice pa1 pn1 pc1),(.slice pa2 pn2 pc2),(.slice pa3 pn3 pc3),(.slice pa4 pn4 pc4),(.slice pa5 pn5 pc5),rfl,hH ?_,hH ?_⟩
  ·refine⟨gS,gS,gS,gS,gS,gS,gS,fun o=> ?_,?_⟩
   ·first
     |(have hq:=nbf o;go_simp;done)
     |go_simp
   ·first
     |(have nq:=nbz;refine gDk.more (F:=fun k=>k≠wr.heap.size∧k≠bA∧k≠bB) (fun _ h _=>h.2) ?_;(repeat(with_reducible refine Veo ?_ hFw _));exact gDk.more (fun k hk _=>⟨(by have hk':_≤k:=hk;(try simp at hk');omega),(by have hk':_≤k:=hk;(try simp at hk');omega),(by have hk':_≤k:=hk;(try simp at hk');omega)⟩) HD9.o)
     |(refine gDk.ext (gDk.more (fun k hk _=>⟨(by have hk':_≤k:=hk;(try simp at hk');omega),(by have hk':_≤k:=hk;(try simp at hk');omega)⟩) HD9.o) ?_;exact Qac)
  ·have hq:=HX9.o;have hz9':=hq.size;exact Qac):p:=h
theorem Vem {F G H:Nat→Prop} {w:World} {cs:List Value} {d:Dk} {v u:Value} {l:List No} {q:List Int} (h:RDk F w cs d) (hl:RSl RNo 4 G w v l) (hq:RSl Qe1 1 H w u q) (hl1:l.length≤1048576) (hq1:q.length≤1048576):
  Calls Tryz.prog 8 #[.agg cs.toArray,v,u] w fun e w'=>e= .returned (.bool true)∧Ext w w':=by
 have HDK:=hH (fun(W:World) (hx:Ext w W)=>gDk.ext (gDk.lt h) hx);have HCD:=hH (fun(W:World) (hx:Ext w W)=>Qke (HDK.o W hx));have HL:=hH (fun(W:World) (hx:Ext w W)=>(RSl.more gNo (G:=fun j=>j<w.heap.size) (fun _ _ h=>h) hl).ext gNo hx);have HQ:=hH (fun(W:World) (hx:Ext w W)=>hq.ext Qd6 hx);have HRK:=hH (fun(h:Qaq d=0)=>checkK_ok.1 h);obtain⟨va,vg,vs,vw,vo,rfl,ist,ha,hg,hqq,hw,ick,ho⟩:=h;obtain⟨aa1,an1,ac1,rfl⟩:=ha.slice;obtain⟨aa2,an2,ac2,rfl⟩:=hg.slice;obtain⟨aa3,an3,ac3,rfl⟩:=hqq.slice;obtain⟨aa4,an4,ac4,rfl⟩:=hw.slice;obtain⟨aa5,an5,ac5,rfl⟩:=ho.slice;obtain⟨a6,n6,c6,rfl⟩:=hl.slice;obtain⟨a7,n7,c7,rfl⟩:=hq.slice;obtain rfl:n6=l.length:=hl.len.1;obtain rfl:n7=q.length:=hq.len.1;clear ha hg hqq hw ho ist ick hl hq;by_cases hc:Qaq d=0
 ·have HR:=hH (HRK.o hc);rw[hc] at HCD;clear hc HRK;obtain⟨i0,hi0,hz0,hz1',hz2⟩:=info_parts Qfg;have HJ:=hH hi0;have HZ0:=hH hz0;have HZ1:=hH hz1';have HZ2:=hH hz2;clear hi0 hz0 hz1' hz2;go_enter Tryz.func8,Tryz.ntmps8;go_upto_region 5 with(first|(go_at_call 22;go_must ((with_reducible refine(Qhs _).mono ?_);rintro e w1 ⟨rfl,hx1⟩;obtain⟨c1_0,c1_1,c1_2,c1_3,c1_4,c1_5,c1_6⟩:=cC7 hx1 (w.heap.size) (.int .i64 d.site) (.slice aa1 an1 ac1) (.slice aa2 an2 ac2) (.slice aa3 an3 ac3) (.slice aa4 an4 ac4) (.int .i64 d.clock) (.slice aa5 an5 ac5);have hz1:=hx1.size;(try simp at hz1);have hp1:=zL hx1 w.heap.size;have hcf1:=fun(o:Nat)=>(hx1.frz (w.heap.size) o ltA).trans (show _=false by go_simp);have HX1:=xY w hx1;clear hx1))|(go_at_call 28;go_must ((with_reducible refine(HCD.o _ (ext_trans HX1.o Qac)).mono ?_);rintro e w2 ⟨rfl,hx2⟩;obtain⟨d2_0,d2_1,d2_2,d2_3,d2_4,d2_5,d2_6⟩:=cC7 hx2 (w.heap.size) (.int .i64 d.site) (.slice aa1 an1 ac1) (.slice aa2 an2 ac2) (.slice aa3 an3 ac3) (.slice aa4 an4 ac4) (.int .i64 d.clock) (.slice aa5 an5 ac5);have hz2:=hx2.size;(try simp at hz2);have hp2:=zL hx2 w.heap.size;have hcf2:=fun(o:Nat)=>(hx2.frz (w.heap.size) o ltA).trans (hcf1 o);have HX2:=xX HX1 hx2;clear hx2)))
  refine Qad (fun W2 eW2=> ?_);have HPP:=hH (show DkAt (fun k=>k<w.heap.size) w.heap.size d W2 (.slice aa1 an1 ac1) (.slice aa2 an2 ac2) (.slice aa3 an3 ac3) (.slice aa4 an4 ac4) (.slice aa5 an5 ac5) from⟨by rw[eW2];go_simp,by rw[eW2];go_simp,by rw[eW2];go_simp,by rw[eW2];go_simp,by rw[eW2];go_simp,by rw[eW2];go_simp,by rw[eW2];go_simp,fun o=>by have hq:=hcf2 o;rw[eW2];go_simp,HDK.o W2 (by rw[eW2];exact ext_trans HX2.o Qac)⟩);have HXW:=hH (show Ext w W2 by rw[eW2];exact ext_trans HX2.o Qac);clear eW2 HX1 HX2 hcf1 hcf2;go_wp2_with fail
  go_loopw [7,9] (fun v7 v9 wr=>∃(k:Nat) (all:List No),k≤l.length∧all.length≤k∧v9= .int .i64 k∧Hid (Vek all)∧Hid (OSl RNo 4 48 W2.heap.size (fun _=>True) wr v7 all)∧Hid (Ext W2 wr)) (fun _ v9 _=>l.length-(intOf v9).toNat)
  case atStart=>exact⟨0,[],Nat.zero_le _,Nat.le_refl _,rfl,hH Ve0,hH Qbn,hH (ext_refl _)⟩
  case round=>
   obtain⟨k,all,hk,hak,rfl,HK,HO,HXR⟩:=hrel;obtain⟨a8,n8,c8,rfl⟩:=Qab HO.o;obtain rfl:n8=all.length:=(Qa2 HO.o).1;have HOL:=hH (Qak HO.o);by_cases hlt:k<l.length
   ·obtain⟨b,o,n,b1,m1,f1,b2,m2,f2,ea,hb,ek,hd,y0,y1,y2,y3⟩:=Qdj (HL.o W2 HXW.o) hlt;subst ea;have HD:=hH (gNo.more (G:=fun j=>j<W2.heap.size) (fun j hj _=>Nat.lt_of_lt_of_le hj HXW.o.size) hd);obtain⟨ns,hns⟩:∃x:Int,n.site=x:=⟨_,rfl⟩;obtain⟨nn,hnn⟩:∃x:Int,n.number=x:=⟨_,rfl⟩;have HNS:=hH hns;have HNN:=hH hnn;rw[hns] at y0 HD;rw[hnn] at y1 HD;have HY:=hH (And.intro y0 (And.intro y1 (And.intro y2 y3)));have HAR:=hH (fun(W:World) (hx:Ext wr W)=>(Qaz gNo HO.o (G:=fun _=>True) (fun _ _ _=>trivial) (fun _ _=>trivial)).ext gNo hx);have HLN:=hH (show all.length≤1048576 by omega);clear hns hnn hd ek y0 y1 y2 y3;obtain⟨V3,eV3⟩:∃W:World,W=wr:=⟨wr,rfl⟩;subst eV3;go_wp2_with fail
    go_loopw [10,11] (fun v10 v11 wr=>∃j:Nat,j≤all.length∧v11= .int .i64 j∧Hid (v10= .bool ((all.take j).any (Veu n)))∧Hid (Ext V3 wr)) (fun _ v11 _=>all.length-(intOf v11).toNat)
    case atStart=>exact⟨0,Nat.zero_le _,rfl,hH rfl,hH (ext_refl _)⟩
    case round=>
     obtain⟨j,hj,rfl,HT,HXJ⟩:=hrel;obtain⟨tw,htw⟩:∃t:Bool,(all.take j).any (Veu n)=t:=⟨_,rfl⟩;have ht:=HT.o;rw[htw] at ht;subst ht;have HTW:=hH htw;have HX2J:=hH (ext_trans HXR.o HXJ.o);clear HT htw;by_cases hjl:j<all.length
     ·obtain⟨b',o',m,b1',m1',f1',b2',m2',f2',ea,hb',ek',hd',z0,z1,z2,z3⟩:=Qdj (HAR.o wr HXJ.o) hjl;subst ea;obtain⟨y0',y1',_,_⟩:=HY.o;have y0:=(HX2J.o.cells _ _ hb).trans y0';have y1:=(HX2J.o.cells _ _ hb).trans y1';have hbr:b<wr.heap.size:=Nat.lt_of_lt_of_le hb HX2J.o.size;have HNX:=hH (Ve9 (f:=Veu n) ek');have HKM:=hH (show Veu n m=((m.site==ns) && (m.number==nn)) by unfold Veu;rw[HNS.o,HNN.o]);generalize m.site=ms at *;generalize m.number=mn at *;clear y0' y1' ek' hd' z2 z3;go_upto_region 13 with fail
      cases tw with
      |true=>
       refine Qaa fol kR (fun hlater=> ?_);repeat(go_big_quiet_step ((fail)))
       refine wpQuiet_nil ?_;rintro w5 ⟨⟨w5x,hx5⟩,rfl⟩;clear hlater;go_wp2_with fail
       go_roundw
       case rel=>exact⟨j+1,hjl,by go_num,hH (by rw[HNX.o,HTW.o];rfl),hH (ext_trans HXJ.o (ext_trans hx5 Qac))⟩
       case measure=>simp[intOf];omega
      |false=>
       by_cases h1:ms=ns
       ·have t1:(ms==ns)=true:=by simpa using h1
        by_cases h2:mn=nn
        ·have t2:(mn==nn)=true:=by simpa using h2
         have HKK:=hH (show Veu n m=true by rw[HKM.o,t1,t2];rfl);clear h1 h2;exact Zbj
        ·have t2:(mn==nn)=false:=by simpa using h2
         have HKK:=hH (show Veu n m=false by rw[HKM.o,t1,t2];rfl);clear h1 h2;exact Zbj
       ·have t1:(ms==ns)=false:=by simpa using h1
        have HKK:=hH (show Veu n m=false by rw[HKM.o,t1];rfl);clear h1;exact Zbj
     ·obtain rfl:j=all.length:=oM;have HTA:=hH (show all.any (Veu n)=tw by have h:=HTW.o;rw[List.take_length] at h;exact h);obtain⟨y0',y1',y2',y3'⟩:=HY.o;have y0:=(HX2J.o.cells _ _ hb).trans y0';have y1:=(HX2J.o.cells _ _ hb).trans y1';have y2:=(HX2J.o.cells _ _ hb).trans y2';have y3:=(HX2J.o.cells _ _ hb).trans y3';have hbr:b<wr.heap.size:=Nat.lt_of_lt_of_le hb HX2J.o.size;have HX35:=HXJ;have HXW5:=HX2J;have hv5:=HX2J.o.size;have HON:=hH (fun j hj=>Nat.lt_of_lt_of_le (HOL.o j hj).2 HXJ.o.size);clear y0' y1' y2' y3' hj hjl;obtain⟨V5,eV5⟩:∃W:World,W=wr:=⟨wr,rfl⟩;subst eV5;cases tw with
      |true=>
       go_wp2_with fail
       go_roundw
       case rel=>exact⟨k+1,all,hlt,oM,by go_num,HK,hH (Qai gNo HO.o HXJ.o),HX2J⟩
       case measure=>simp[intOf];omega
      |false=>
       have HKS:=hH (Vet HK.o HTA.o);have HOL:=hH (Qak (Qai gNo HO.o HXJ.o));go_wp2_with (first|(at_builtin;go_must (refine Qaj gNo rfl (.tmp 67) (.tmp 72) 23 rfl W2.heap.size 48 i0 _ 4 64 Tryz.underlying23 HJ.o HZ0.o HZ1.o HZ2.o rfl oM (F:=fun _=>True) (G:=fun j=>j<W2.heap.size∨j=V5.heap.size) (.slice a8 all.length c8) (all) rfl (Qai gNo HO.o (ext_trans HX35.o Qac)) (.slice (some ⟨V5.heap.size,0,none⟩) 1 1) [n] rfl (Qlh rfl (Qis asG asG asG asG) (gNo.more (fun j hj _=>Or.inl hj) (gNo.ext HD.o (ext_trans HXW5.o Qac))) (Or.inr rfl) ltA (Nat.le_refl _) mO) Qei (fun j hj _=>⟨trivial,fun e=>hj.elim (fun hj=>by have h1:=(HOL.o j e.symm).1;have hj':j<W2.heap.size:=hj;omega) (fun hj=>by have h2:=(HOL.o j e.symm).2;have hj':j=V5.heap.size:=hj;omega)⟩) (Ve4 HLN.o) (Ve3 HLN.o) ltA ?_);intro v9 w9 hown9 hg9 hat9;obtain⟨a9,n9,k9,rfl⟩:=Qab hown9;have HO9:=hH hown9;have HX9:=hH (show Ext W2 w9 from Qao (show Ext W2 _ from ext_trans HXW5.o Qac) hg9 (fun j hj=>(HOL.o j hj).1));clear hown9 hg9 hat9))
       go_roundw
       case rel=>exact⟨k+1,_,hlt,by rw[List.length_append,List.length_singleton];omega,by go_num,HKS,HO9,HX9⟩
       case measure=>simp[intOf];omega
   ·have hal:all.length≤1048576:=oM;have HAL:=hH hal;have HKK:=HK;clear hal hak hk;obtain⟨V4,eV4⟩:∃W:World,W=wr:=⟨wr,rfl⟩;subst eV4;have HAR:=hH (RSl.more gNo (G:=fun j=>j<V4.heap.size) (fun _ _ h=>h) (Qaz gNo HO.o (G:=fun _=>True) (fun _ _ _=>trivial) (fun _ _=>trivial)));have HA4:=hH (fun(W:World) (hx:Ext V4 W)=>HAR.o.ext gNo hx);have HX4:=HXR;clear HOL HO HXR;go_wp2_with fail
    go_loopw [8,12] (fun v8 v12 wr=>∃(k:Nat) (oth:List No),k≤q.length∧oth.length≤k∧v12= .int .i64 k∧Hid (∀y∈oth,y∈all)∧Hid (OSl RNo 4 48 V4.heap.size (fun _=>True) wr v8 oth)∧Hid (Ext V4 wr)) (fun _ v12 _=>q.length-(intOf v12).toNat)
    case atStart=>exact⟨0,[],Nat.zero_le _,Nat.le_refl _,rfl,hH sI,hH Qbn,hH (ext_refl _)⟩
    case round=>
     obtain⟨k,oth,hk,hok,rfl,HS,HOO,HXR⟩:=hrel;obtain⟨b8,m8,e8,rfl⟩:=Qab HOO.o;obtain rfl:m8=oth.length:=(Qa2 HOO.o).1;have HOL:=hH (Qak HOO.o);have HXwr:=hH (ext_trans HXW.o (ext_trans HX4.o HXR.o));have hv4:=HXR.o.size;have hlo:oth.length≤1048576:=oM;have HLN:=hH hlo;by_cases hlt:k<q.length
     ·obtain⟨bq,oq,x,ea,hbq,ekq,ix,cq⟩:=Vfm (HQ.o wr HXwr.o) hlt;subst ea;by_cases h0:0≤x
      ·have t1:decide (0≤x)=true:=decide_eq_true h0;by_cases h1:x<(all.length:Int)
       ·have t2:decide (x<(all.length:Int))=true:=decide_eq_true h1;obtain⟨p,rfl⟩:∃p:Nat,x=(p:Int):=⟨x.toNat,oM⟩;have hpl:p<all.length:=oM;obtain⟨b,o,m,b1,m1,f1,b2,m2,f2,ea,hb,ek,hd,y0',y1',y2',y3'⟩:=Qdj (HA4.o V4 (ext_refl _)) hpl;subst ea;have HD:=hH hd;have y0:=(HXR.o.cells _ _ hb).trans y0';have y1:=(HXR.o.cells _ _ hb).trans y1';have y2:=(HXR.o.cells _ _ hb).trans y2';have y3:=(HXR.o.cells _ _ hb).trans y3';have hbr:b<wr.heap.size:=Nat.lt_of_lt_of_le hb hv4;have HMM:=hH (show∀y∈oth++[m],y∈all from fun y hy=>by
         rcases List.mem_append.1 hy with h|h
         ·exact HS.o y h
         ·rw[List.mem_singleton.1 h];exact List.mem_of_getElem? ek)
        generalize m.site=ms at *;generalize m.number=mn at *;clear hd ek y0' y1' y2' y3' ekq ix h0 h1;go_wp2_with (first|(at_builtin;go_must (refine Qaj gNo rfl (.tmp 94) (.tmp 102) 23 rfl V4.heap.size 48 i0 _ 4 64 Tryz.underlying23 HJ.o HZ0.o HZ1.o HZ2.o rfl oM (F:=fun _=>True) (G:=fun j=>j<V4.heap.size∨j=wr.heap.size) (.slice b8 oth.length e8) (oth) rfl (Qai gNo HOO.o Qac) (.slice (some ⟨wr.heap.size,0,none⟩) 1 1) [m] rfl (Qlh rfl (Qis asG asG asG asG) (gNo.more (fun j hj _=>Or.inl hj) (gNo.ext HD.o (ext_trans HXR.o Qac))) (Or.inr rfl) ltA (Nat.le_refl _) mO) Qei (fun j hj _=>⟨trivial,fun e=>hj.elim (fun hj=>by have h1:=(HOL.o j e.symm).1;have hj':j<V4.heap.size:=hj;omega) (fun hj=>by have h2:=(HOL.o j e.symm).2;have hj':j=wr.heap.size:=hj;omega)⟩) (Ve4 HLN.o) (Ve3 HLN.o) ltA ?_);intro v9 w9 hown9 hg9 hat9;obtain⟨a9,n9,k9,rfl⟩:=Qab hown9;have HO9:=hH hown9;have HX9:=hH (show Ext V4 w9 from Qao (show Ext V4 _ from ext_trans HXR.o Qac) hg9 (fun j hj=>(HOL.o j hj).1));clear hown9 hg9 hat9))
        go_roundw
        case rel=>exact⟨k+1,_,hlt,by rw[List.length_append,List.length_singleton];omega,by go_num,HMM,HO9,HX9⟩
        case measure=>simp[intOf];omega
       ·have t2:decide (x<(all.length:Int))=false:=decide_eq_false h1;clear h0 h1 ekq ix;go_wp2_with fail
        go_roundw
        case rel=>exact⟨k+1,oth,hlt,oM,by go_num,HS,HOO,HXR⟩
        case measure=>simp[intOf];omega
      ·have t1:decide (0≤x)=false:=decide_eq_false h0;clear h0 ekq ix;go_wp2_with fail
       go_roundw
       case rel=>exact⟨k+1,oth,hlt,oM,by go_num,HS,HOO,HXR⟩
       case measure=>simp[intOf];omega
     ·have HMS:=hH (show∀y,y∈all↔y∈oth++all from fun y=>⟨fun h=>List.mem_append_right _ h,fun h=>(List.mem_append.1 h).elim (HS.o y) id⟩);have HAW:=hH (HA4.o wr HXR.o);clear hlo hok hk HS;go_upto_region 22 with(first|(at_builtin;go_must (refine Qaj gNo rfl (.tmp 104) (.tmp 105) 23 rfl V4.heap.size 48 i0 _ 4 64 Tryz.underlying23 HJ.o HZ0.o HZ1.o HZ2.o rfl oM (F:=fun _=>True) (G:=fun j=>j<V4.heap.size) (.slice b8 oth.length e8) oth rfl HOO.o (.slice a8 all.length c8) all rfl HAW.o Qei (fun j hj _=>⟨trivial,fun e=>by have h1:=(HOL.o j e.symm).1;have hj':j<V4.heap.size:=hj;omega⟩) (Vfp HLN.o HAL.o) (Vfo HLN.o HAL.o) ltA ?_);intro v9 w9 hown9 hg9 hat9;obtain⟨a9,n9,k9,rfl⟩:=Qab hown9;have HO9:=hH hown9;have HX9:=hH (show Ext V4 w9 from Qao HXR.o hg9 (fun j hj=>(HOL.o j hj).1));clear hown9 hg9 hat9))
      have HOTL:=hH (show(oth++all).length≤2097152 by have h1:=HLN.o;have h2:=HAL.o;rw[List.length_append];omega);generalize hot:oth++all=ot at *;obtain rfl:n9=ot.length:=(Qa2 HO9.o).1;have HOT:=hH (RSl.more gNo (G:=fun j=>j<w9.heap.size) (fun _ _ h=>h) (Qaz gNo HO9.o (G:=fun _=>True) (fun _ _ _=>trivial) (fun _ _=>trivial)));have HAT:=hH (RSl.more gNo (G:=fun j=>j<w9.heap.size) (fun _ _ h=>h) (HA4.o w9 HX9.o));have HXw9:=hH (ext_trans HXW.o (ext_trans HX4.o HX9.o));have HP9:=hH (HPP.o.ext (ext_trans HX4.o HX9.o));clear HO9 HOO HXR HAW HXwr HOL HLN hot HA4 HAR HX9 hv4;obtain⟨V6,eV6⟩:∃W:World,W=w9:=⟨w9,rfl⟩;subst eV6;obtain⟨p0,p1,p2,p3,p4,p5,p6⟩:=HP9.o.seven;have hpl:=HP9.o.lt;go_cut [13,14] from 107 to 108 (fun s13 s14 wx=>∃bA bB:Nat,s13= .pointer (some ⟨bA,0,none⟩)∧s14= .pointer (some ⟨bB,0,none⟩)∧¬bA=bB∧V6.heap.size≤bA∧V6.heap.size≤bB∧Hid (DkAt (fun k=>k<w.heap.size) bA d wx (.slice aa1 an1 ac1) (.slice aa2 an2 ac2) (.slice aa3 an3 ac3) (.slice aa4 an4 ac4) (.slice aa5 an5 ac5))∧Hid (DkAt (fun k=>k<w.heap.size) bB d wx (.slice aa1 an1 ac1) (.slice aa2 an2 ac2) (.slice aa3 an3 ac3) (.slice aa4 an4 ac4) (.slice aa5 an5 ac5))∧Hid (Ext V6 wx))
      case first=>
       go_region
       all_goals (go_wp2_with fail;go_meet)
       all_goals
        refine⟨_,_,rfl,rfl,by first|omega|(simp<;>omega),by first|omega|(simp<;>omega),by first|omega|(simp<;>omega),hH ⟨gS,gS,gS,gS,gS,gS,gS,fun o=>by go_simp,HDK.o _ (ext_trans HXw9.o Qac)⟩,hH ⟨gS,gS,gS,gS,gS,gS,gS,fun o=>by go_simp,HDK.o _ (ext_trans HXw9.o Qac)⟩,hH Qac⟩
      case rest=>
       obtain⟨bA,bB,rfl,rfl,hab,hA6,hB6,HAB,HBB,HXC⟩:=hcut;have hw6:=HXw9.o.size;have HA1:=hH (HAB.o.more (G:=fun k=>k≠bA∧k≠bB) (fun k hk=>⟨by have hk':k<w.heap.size:=hk;omega,by have hk':k<w.heap.size:=hk;omega⟩));have HB1:=hH (HBB.o.more (G:=fun k=>k≠bA∧k≠bB) (fun k hk=>⟨by have hk':k<w.heap.size:=hk;omega,by have hk':k<w.heap.size:=hk;omega⟩));have HL1:=hH (RSl.more gNo (G:=fun k=>k≠bA∧k≠bB) (fun k hk _=>⟨by have hk':k<V6.heap.size:=hk;omega,by have hk':k<V6.heap.size:=hk;omega⟩) (HAT.o.ext gNo HXC.o));have HO1:=hH (RSl.more gNo (G:=fun k=>k≠bA∧k≠bB) (fun k hk _=>⟨by have hk':k<V6.heap.size:=hk;omega,by have hk':k<V6.heap.size:=hk;omega⟩) (HOT.o.ext gNo HXC.o));have hba:¬bB=bA:=fun e=>hab e.symm
       have hFA:¬(bA≠bA∧bA≠bB):=fun h=>h.1 rfl
       have hFB:¬(bB≠bA∧bB≠bB):=fun h=>h.2 rfl
       clear p0 p1 p2 p3 p4 p5 p6 hpl HAB HBB HAT HOT HP9 HPP;go_wp2_with fail
       go_loopw [15] (fun iv wr=>∃(k:Nat) (e:Dk) (z1 z2 z3 z4 z5:Value),k≤all.length∧iv= .int .i64 k∧Hid (Vd7 d (all.take k)=some e)∧Hid (DkAt (fun k=>k≠bA∧k≠bB) bA e wr z1 z2 z3 z4 z5)∧Hid (DkAt (fun k=>k≠bA∧k≠bB) bB d wr (.slice aa1 an1 ac1) (.slice aa2 an2 ac2) (.slice aa3 an3 ac3) (.slice aa4 an4 ac4) (.slice aa5 an5 ac5))∧Hid (RSl RNo 4 (fun k=>k≠bA∧k≠bB) wr (.slice a8 all.length c8) all)∧Hid (RSl RNo 4 (fun k=>k≠bA∧k≠bB) wr (.slice a9 ot.length k9) ot)∧Hid (Ext V6 wr)) (fun iv _=>all.length-(intOf iv).toNat)
       case atStart=>exact⟨0,d,_,_,_,_,_,Nat.zero_le _,rfl,hH rfl,HA1,HB1,HL1,HO1,HXC⟩
       case round=>
        obtain⟨k,e,z1,z2,z3,z4,z5,hk,rfl,HRE,HDE,HDO,HLL,HOT,HXE⟩:=hrel;clear HA1 HB1 HL1 HO1 HXC;have hbnd:=HAL.o;by_cases hlt:k<all.length
        ·obtain⟨b,o,n,a1,n1,c1,a2,n2,c2,ea_,hb,ek,hd,u0,u1,u2,u3⟩:=Qdj HLL.o hlt;subst ea_;have HRU:=hH (fun(W:World) (hx:Ext wr W)=>(Qwp (gDk.ext HDE.o.read hx) (gNo.ext hd hx)).mono fun _ _ h=>Vfh h);obtain⟨er,her⟩:∃x:Int,Q3r e n=x:=⟨_,rfl⟩;obtain⟨dU,hdU⟩:∃x:Dk,Van e n=x:=⟨_,rfl⟩;rw[her,hdU] at HRU;have HRX:=hH (fun(q:er=0)=>(show Vd7 d (all.take (k+1))=some dU from hdU▸Ved ek HRE.o (her.trans q)));have hpt:=HDE.o.parts;obtain⟨za1,zn1,zc1,rfl⟩:=hpt.1.slice;obtain⟨za2,zn2,zc2,rfl⟩:=hpt.2.1.slice;obtain⟨za3,zn3,zc3,rfl⟩:=hpt.2.2.1.slice;obtain⟨za4,zn4,zc4,rfl⟩:=hpt.2.2.2.1.slice;obtain⟨za5,zn5,zc5,rfl⟩:=hpt.2.2.2.2.slice;have hdb:=HDE.o.lt;obtain⟨y0,y1,y2,y3,y4,y5,y6⟩:=HDE.o.seven;generalize n.site=ns at *;generalize n.number=nn at *;have hoe:=HDO.o.lt;clear her hdU hpt ek hd;go_upto_region 26 with fail
         go_cut [16,17] from 109 to 126 (fun s19 s20 wx=>s20= .int .i64 er∧∃(ub:Nat) (z1 z2 z3 z4 z5:Value),s19= .pointer (some ⟨ub,0,none⟩)∧Hid (DkAt (fun k=>k≠bA∧k≠bB) ub dU wx z1 z2 z3 z4 z5)∧Hid (Ext wr wx))
         case first=>
          exact Zbi
         case rest=>
          clear HRU u0 u1 u2 u3 y0 y1 y2 y3 y4 y5 y6;obtain⟨rfl,ub,g1,g2,g3,g4,g5,rfl,HUU,HX6⟩:=hcut;have hpt:=HUU.o.parts;obtain⟨ga1,gn1,gc1,rfl⟩:=hpt.1.slice;obtain⟨ga2,gn2,gc2,rfl⟩:=hpt.2.1.slice;obtain⟨ga3,gn3,gc3,rfl⟩:=hpt.2.2.1.slice;obtain⟨ga4,gn4,gc4,rfl⟩:=hpt.2.2.2.1.slice;obtain⟨ga5,gn5,gc5,rfl⟩:=hpt.2.2.2.2.slice;have HDF:=hH (HDE.o.ext HX6.o);have HOF:=hH (HDO.o.ext HX6.o);have HPF:=hH (HLL.o.ext gNo HX6.o);have HOG:=hH (HOT.o.ext gNo HX6.o);have HXF:=hH (ext_trans HXE.o HX6.o);clear HDE HDO HLL HOT HXE HX6 hpt hdb hb hoe;by_cases q:er=0
          ·have t8:(er !=0)=false:=by simp[q]
           have HRY:=hH (HRX.o q);obtain⟨y0,y1,y2,y3,y4,y5,y6⟩:=HUU.o.seven;obtain⟨f0,f1,f2,f3,f4,f5,f6⟩:=HDF.o.fz7;obtain⟨x0,x1,x2,x3,x4,x5,x6⟩:=HDF.o.seven;clear q HRX;go_wp2_with fail
           go_roundw
           case rel=>exact⟨k+1,dU,_,_,_,_,_,hlt,by go_num,HRY,hH (HDF.o.ok.put HUU.o.rd hFA),hH (HOF.o.oth7 hab hFA _ _ _ _ _ _ _),hH (RSl.keep gNo (Vez (F:=fun k=>k≠bA∧k≠bB) hFA _ _ _ _ _ _ _) HPF.o),hH (RSl.keep gNo (Vez (F:=fun k=>k≠bA∧k≠bB) hFA _ _ _ _ _ _ _) HOG.o),hH (Vfv HXF.o hA6 _ _ _ _ _ _ _)⟩
           case measure=>simp[intOf];omega
          ·have t8:(er !=0)=true:=by simpa using q
           clear q HRX;go_wp2_with fail
           go_ret;exact⟨rfl,ext_trans HXw9.o (ext_trans HXF.o Qac)⟩
        ·obtain rfl:k=all.length:=oM;have HRZ:=hH (show Vd7 d all=some e by have h:=HRE.o;rw[List.take_length] at h;exact h);clear HRE hk hlt;have HB0:=hH HDO.o;have HA0:=hH HDE.o;have HT0:=hH HOT.o;have HE0:=hH HXE.o;have HRA:=HRZ;clear HDO HDE HOT HXE HLL HRZ;obtain⟨ea,hea⟩:∃x:Dk,x=e:=⟨_,rfl⟩;subst hea;obtain⟨Y1,hY1⟩:∃v:Value,v=z1:=⟨_,rfl⟩;obtain⟨Y2,hY2⟩:∃v:Value,v=z2:=⟨_,rfl⟩;obtain⟨Y3,hY3⟩:∃v:Value,v=z3:=⟨_,rfl⟩;obtain⟨Y4,hY4⟩:∃v:Value,v=z4:=⟨_,rfl⟩;obtain⟨Y5,hY5⟩:∃v:Value,v=z5:=⟨_,rfl⟩;subst hY1 hY2 hY3 hY4 hY5;go_wp2_with fail
         go_loopw [18] (fun iv wr=>∃(k:Nat) (e:Dk) (z1 z2 z3 z4 z5:Value),k≤ot.length∧iv= .int .i64 k∧Hid (Vd7 d (ot.take k)=some e)∧Hid (DkAt (fun k=>k≠bA∧k≠bB) bB e wr z1 z2 z3 z4 z5)∧Hid (DkAt (fun k=>k≠bA∧k≠bB) bA ea wr Y1 Y2 Y3 Y4 Y5)∧Hid (RSl RNo 4 (fun k=>k≠bA∧k≠bB) wr (.slice a9 ot.length k9) ot)∧Hid (Ext V6 wr)) (fun iv _=>ot.length-(intOf iv).toNat)
         case atStart=>exact⟨0,d,_,_,_,_,_,Nat.zero_le _,rfl,hH rfl,HB0,HA0,HT0,HE0⟩
         case round=>
          obtain⟨k,e,z1,z2,z3,z4,z5,hk,rfl,HRE,HDE,HDO,HLL,HXE⟩:=hrel;clear HB0 HA0 HT0 HE0;have hbnd:=HOTL.o;by_cases hlt:k<ot.length
          ·obtain⟨b,o,n,a1,n1,c1,a2,n2,c2,ea_,hb,ek,hd,u0,u1,u2,u3⟩:=Qdj HLL.o hlt;subst ea_;have HRU:=hH (fun(W:World) (hx:Ext wr W)=>(Qwp (gDk.ext HDE.o.read hx) (gNo.ext hd hx)).mono fun _ _ h=>Vfh h);obtain⟨er,her⟩:∃x:Int,Q3r e n=x:=⟨_,rfl⟩;obtain⟨dU,hdU⟩:∃x:Dk,Van e n=x:=⟨_,rfl⟩;rw[her,hdU] at HRU;have HRX:=hH (fun(q:er=0)=>(show Vd7 d (ot.take (k+1))=some dU from hdU▸Ved ek HRE.o (her.trans q)));have hpt:=HDE.o.parts;obtain⟨za1,zn1,zc1,rfl⟩:=hpt.1.slice;obtain⟨za2,zn2,zc2,rfl⟩:=hpt.2.1.slice;obtain⟨za3,zn3,zc3,rfl⟩:=hpt.2.2.1.slice;obtain⟨za4,zn4,zc4,rfl⟩:=hpt.2.2.2.1.slice;obtain⟨za5,zn5,zc5,rfl⟩:=hpt.2.2.2.2.slice;have hdb:=HDE.o.lt;obtain⟨y0,y1,y2,y3,y4,y5,y6⟩:=HDE.o.seven;generalize n.site=ns at *;generalize n.number=nn at *;have hoe:=HDO.o.lt;clear her hdU hpt ek hd;go_upto_region 33 with fail
           go_cut [19,20] from 127 to 144 (fun s19 s20 wx=>s20= .int .i64 er∧∃(ub:Nat) (z1 z2 z3 z4 z5:Value),s19= .pointer (some ⟨ub,0,none⟩)∧Hid (DkAt (fun k=>k≠bA∧k≠bB) ub dU wx z1 z2 z3 z4 z5)∧Hid (Ext wr wx))
           case first=>
            exact Zbi
           case rest=>
            clear HRU u0 u1 u2 u3 y0 y1 y2 y3 y4 y5 y6;obtain⟨rfl,ub,g1,g2,g3,g4,g5,rfl,HUU,HX6⟩:=hcut;have hpt:=HUU.o.parts;obtain⟨ga1,gn1,gc1,rfl⟩:=hpt.1.slice;obtain⟨ga2,gn2,gc2,rfl⟩:=hpt.2.1.slice;obtain⟨ga3,gn3,gc3,rfl⟩:=hpt.2.2.1.slice;obtain⟨ga4,gn4,gc4,rfl⟩:=hpt.2.2.2.1.slice;obtain⟨ga5,gn5,gc5,rfl⟩:=hpt.2.2.2.2.slice;have HDF:=hH (HDE.o.ext HX6.o);have HOF:=hH (HDO.o.ext HX6.o);have HPF:=hH (HLL.o.ext gNo HX6.o);have HXF:=hH (ext_trans HXE.o HX6.o);clear HDE HDO HLL HXE HX6 hpt hdb hb hoe;by_cases q:er=0
            ·have t8:(er !=0)=false:=by simp[q]
             have HRY:=hH (HRX.o q);obtain⟨y0,y1,y2,y3,y4,y5,y6⟩:=HUU.o.seven;obtain⟨f0,f1,f2,f3,f4,f5,f6⟩:=HDF.o.fz7;obtain⟨x0,x1,x2,x3,x4,x5,x6⟩:=HDF.o.seven;clear q HRX;go_wp2_with fail
             go_roundw
             case rel=>exact⟨k+1,dU,_,_,_,_,_,hlt,by go_num,HRY,hH (HDF.o.ok.put HUU.o.rd hFB),hH (HOF.o.oth7 hba hFB _ _ _ _ _ _ _),hH (RSl.keep gNo (Vez (F:=fun k=>k≠bA∧k≠bB) hFB _ _ _ _ _ _ _) HPF.o),hH (Vfv HXF.o hB6 _ _ _ _ _ _ _)⟩
             case measure=>simp[intOf];omega
            ·have t8:(er !=0)=true:=by simpa using q
             clear q HRX;go_wp2_with fail
             go_ret;exact⟨rfl,ext_trans HXw9.o (ext_trans HXF.o Qac)⟩
          ·obtain rfl:k=ot.length:=oM;have HRZ:=hH (show Vd7 d ot=some e by have h:=HRE.o;rw[List.take_length] at h;exact h);clear HRE hk hlt;obtain⟨hsame,hra⟩:=Vep HR.o HKK.o HMS.o HRA.o HRZ.o;subst hsame;have HCP:=hH (fun(W:World) (hx:Ext wr W)=>Qfk (gDk.ext HDO.o.read hx));rw[checkK_ok.2 hra] at HCP;have HSD:=hH (fun(W:World) (hx:Ext wr W)=>Qur (gDk.ext HDO.o.read hx) (gDk.ext HDE.o.read hx));obtain⟨y0,y1,y2,y3,y4,y5,y6⟩:=HDO.o.seven;obtain⟨x0,x1,x2,x3,x4,x5,x6⟩:=HDE.o.seven;have hyl:=HDO.o.lt;have hxl:=HDE.o.lt;go_wp2_with (first|(go_at_call 55;go_must ((with_reducible refine(HCP.o _ Qac).mono ?_);rintro e w11 ⟨rfl,hx11⟩;obtain⟨r11_0,r11_1,r11_2,r11_3,r11_4,r11_5,r11_6⟩:=cC7 hx11 (bA) (.int .i64 ea.site) (Y1) (Y2) (Y3) (Y4) (.int .i64 ea.clock) (Y5);obtain⟨s11_0,s11_1,s11_2,s11_3,s11_4,s11_5,s11_6⟩:=cC7 hx11 (bB) (.int .i64 ea.site) (z1) (z2) (z3) (z4) (.int .i64 ea.clock) (z5);have hz11:=hx11.size;(try simp at hz11);have hyl2:=zL hx11 bA;have hxl2:=zL hx11 bB;have HX11:=xY wr hx11;clear hx11))|(go_at_call 33;go_must ((with_reducible refine(HSD.o _ (ext_trans HX11.o Qac)).mono ?_);rintro e w12 ⟨rfl,hx12⟩;have HX12:=xX HX11 hx12;clear hx12)))
           go_ret;exact⟨rfl,ext_trans HXw9.o (ext_trans HXE.o (ext_trans HX12.o Qac))⟩
 ·obtain⟨cv,hcv⟩:∃x:Int,Qaq d=x:=⟨_,rfl⟩;rw[hcv] at HCD hc;have t1:(cv !=0)=true:=by simpa using hc
  clear hcv hc;go_enter Tryz.func8,Tryz.ntmps8;go_wp2_with (first|(go_at_call 22;go_must ((with_reducible refine(Qhs _).mono ?_);rintro e w1 ⟨rfl,hx1⟩;obtain⟨c1_0,c1_1,c1_2,c1_3,c1_4,c1_5,c1_6⟩:=cC7 hx1 (w.heap.size) (.int .i64 d.site) (.slice aa1 an1 ac1) (.slice aa2 an2 ac2) (.slice aa3 an3 ac3) (.slice aa4 an4 ac4) (.int .i64 d.clock) (.slice aa5 an5 ac5);have hz1:=hx1.size;(try simp at hz1);have hp1:=zL hx1 w.heap.size;have hcf1:=fun(o:Nat)=>(hx1.frz (w.heap.size) o ltA).trans (show _=false by go_simp);have HX1:=xY w hx1;clear hx1))|(go_at_call 28;go_must ((with_reducible refine(HCD.o _ (ext_trans HX1.o Qac)).mono ?_);rintro e w2 ⟨rfl,hx2⟩;obtain⟨d2_0,d2_1,d2_2,d2_3,d2_4,d2_5,d2_6⟩:=cC7 hx2 (w.heap.size) (.int .i64 d.site) (.slice aa1 an1 ac1) (.slice aa2 an2 ac2) (.slice aa3 an3 ac3) (.slice aa4 an4 ac4) (.int .i64 d.clock) (.slice aa5 an5 ac5);have hz2:=hx2.size;(try simp at hz2);have hp2:=zL hx2 w.heap.size;have hcf2:=fun(o:Nat)=>(hx2.frz (w.heap.size) o ltA).trans (hcf1 o);have HX2:=xX HX1 hx2;clear hx2)))
  go_ret;exact⟨rfl,ext_trans HX2.o Qac⟩
end Go.Proofs.YtgnccjojfebkeaaGreat
