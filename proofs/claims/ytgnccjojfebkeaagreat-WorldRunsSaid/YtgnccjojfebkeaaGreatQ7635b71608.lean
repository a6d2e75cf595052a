/- How many notes of each site: a map. What is wrong with a relay, by the program. -/
import Derived.Test.YtgnccjojfebkeaaGreatQb12723dfd3
import Derived.Test.YtgnccjojfebkeaaGreatQa70fadfe36
import Derived.Test.YtgnccjojfebkeaaGreatQ28838248a8
import Derived.Maps.OwnOps
import Derived.Maps.Views
import Derived.Test.YtgnccjojfebkeaaGreatQ8c79696ad7
import Derived.Deep.RegionLaw
import Derived.Deep.Cut
import Derived.Test.YtgnccjojfebkeaaGreatQfc0f38224b
import Derived.Test.YtgnccjojfebkeaaGreatQ453a98ae2d
import Derived.Test.YtgnccjojfebkeaaGreatQ37a248829e
import Derived.Deep.RegionHeld3
import Derived.Test.YtgnccjojfebkeaaGreatQ2b02e7f86f
set_option linter.unusedVariables false
set_option linter.unusedSimpArgs false
set_option maxRecDepth 100000
set_option maxHeartbeats 4000000
namespace Go.Proofs.YtgnccjojfebkeaaGreat
open Go Go.RowKit Go.BigFrame Cp
theorem Vjw:Go.Maps.Keyed Tryz.prog 3:=Go.Maps.int_keyed Tryz.underlying3
theorem Via (w:World):(zeroValue 3).run Tryz.prog w= .ok (.int .i64 0) w:=kR
def Vfj (D:DataW Unit) (l:List No):Prop:=Go.Maps.IsMap D∧∀j:Int,D.atKey (.int .i64 j) (.lit (.int .i64 0))= .lit (.int .i64 (Vep l j))
abbrev Vk4 (W:World) (b k:Nat) (D:DataW Unit):Prop:=W.ownsMap Tryz.prog 3 (plainElem Tryz.prog 3) b k D
theorem Vf3:Vfj (.map []) []:=⟨Go.Maps.isMap_empty,fun j=>rfl⟩
theorem Vet {W W':World} {b k:Nat} {D:DataW Unit} (h:Vk4 W b k D) (hx:Ext W W'):Vk4 W' b k D:=by
 obtain⟨es,clock,hb,F,hs,hD⟩:=h;exact⟨es,clock,(hx.below.block b (Array.getElem?_eq_some_iff.1 hb).1).trans hb,F,hs,hD⟩
theorem Vel {D:DataW Unit} {l:List No} {n:No} {c:Int} (h:Vfj D l) (hc:D.atKey (.int .i64 n.site) (.lit (.int .i64 0))= .lit (.int .i64 c)) (hl:l.length≤1000):
  c=Vep l n.site∧Vfj (D.put (.int .i64 n.site) (.lit (.int .i64 (wrap64 (c+1))))) (l++[n]):=by
 have e:c=Vep l n.site:=by
  have:=hc.symm.trans (h.2 n.site);injection this with this
  injection this
 have hle:=Vga l n.site;refine⟨e,h.1.put _ _,fun j=> ?_⟩;rw[Vfp];by_cases hj:n.site=j
 ·subst hj;rw[Go.Maps.atKey_put_same h.1 (by simp[WideAt.IsKeyLit]),if_pos rfl,e,IntWalk.wrap64_in _ oM];rfl
 ·rw[Go.Maps.atKey_put_other (fun e=>hj (by injection e with _ e;exact e.symm)),h.2 j,if_neg hj];rfl
theorem Vha {F:Nat→Prop} {w:World} {v:Value} {l:List No} (h:RSl RNo 4 F w v l) (hl:l.length≤1000):
  Calls Tryz.prog 171 #[v] w fun e w'=>∃b D,e= .returned (.map (some b))∧w.heap.size≤b∧Vk4 w' b l.length D∧Vfj D l∧Ext w w':=by
 have HL:=hH (fun(W:World) (hx:Ext w W)=>h.ext gNo hx);obtain⟨a0,n0,c0,rfl⟩:=h.slice;obtain rfl:n0=l.length:=h.len.1;clear h;have hmm:= @run_makeMap Tryz.prog;go_enter Tryz.func171,Tryz.ntmps171;go_wp2_with fail
 go_loopw [9] (fun iv wr=>∃(k:Nat) (D:DataW Unit),k≤l.length∧iv= .int .i64 k∧Hid (Vk4 wr w.heap.size k D)∧Hid (Vfj D (l.take k))∧Hid (Ext w wr)∧w.heap.size<wr.heap.size) (fun iv _=>l.length-(intOf iv).toNat)
 case atStart=>exact⟨0,_,Nat.zero_le _,rfl,hH (World.ownsMap_made _ _ _ _),hH Vf3,hH Qac,sI⟩
 case round=>
  obtain⟨k,D,hk,rfl,HM,HS,HX,hwr⟩:=hrel;clear hmm;by_cases hlt:k<l.length
  ·obtain⟨b,o,d,a1,n1,c1,a2,n2,c2,rfl,hb,ek,hd,y0,y1,y2,y3⟩:=Qdj (HL.o wr HX.o) hlt;have i1:I64 d.site:=by obtain⟨_,_,_,i,_⟩:=hd;exact i
   have HWF:=WalkArith.wf_i64 i1;have hkl:(l.take k).length≤1000:=by rw[List.length_take];omega
   have HEK:=hH (Qmi ek);have hbr:b<wr.heap.size:=hb;have HST:=hH (fun c hc=>Vel (n:=d) (c:=c) HS.o hc hkl);generalize d.site=st at *;clear ek hd i1;go_wp2_with (first|(at_lookup;refine wpList_lookup_own_int _ rfl _ _ 199 rfl 3 3 .i64 Vjw Tryz.underlying199 Tryz.underlying3 (Via _) (w.heap.size) k _ rfl (Vet HM.o Qac) _ _ rfl (Go.Maps.keyOf_int_mk Tryz.underlying3 HWF) ?_;intro c1 hat1 hwc1)|(at_mapUpdate;refine wpList_mapUpdate_own _ rfl _ _ _ 199 rfl 3 3 Vjw Tryz.underlying199 _ (w.heap.size) k _ rfl (Vet HM.o Qac) mO _ _ _ rfl rfl (Go.Maps.keyOf_int_mk Tryz.underlying3 HWF) _ [] (plainElem_int Tryz.underlying3 (wrap64_wf _)) ?_;intro w5 hown5 hg5;have HX5:=hH (show Ext w w5 from Qd5 (ext_trans HX.o Qac) hg5 (fun j hj=>by cases hj;exact Nat.le_refl _));have hl5:w.heap.size<w5.heap.size:=Nat.lt_of_lt_of_le ltA hg5.size;clear hg5))
   go_roundw
   case rel=>exact⟨k+1,_,oM,by go_num,hH hown5,hH (by rw[HEK.o];exact(HST.o _ hat1).2),HX5,hl5⟩
   case measure=>simp[intOf];omega
  ·obtain rfl:k=l.length:=oM;rw[List.take_of_length_le (Nat.le_refl _)] at HS;go_wp2_with fail
   go_ret;exact⟨_,D,rfl,Nat.le_refl _,HM.o,HS.o,HX.o⟩
theorem Vjx {D:DataW Unit} {l:List No} {n:No} {c1 c2:Int} (h:Vfj D l) (h1:D.atKey (.int .i64 n.site) (.lit (.int .i64 0))= .lit (.int .i64 c1)) (hl:l.length≤1000)
  (h2:(D.put (.int .i64 n.site) (.lit (.int .i64 (wrap64 (c1+1))))).atKey (.int .i64 n.site) (.lit (.int .i64 0))= .lit (.int .i64 c2)):c2=(Vep l n.site:Int)+1:=by
 obtain⟨_,hm⟩:=Vel h h1 hl;have:=h2.symm.trans (hm.2 n.site);injection this with this
 injection this with _ e
 rw[e,Vfp,if_pos rfl];rfl
theorem rt2 {a b:Int} {w w':World} (h:a=b) (hx:Ext w w'):Ending.returned (.int .i64 a)= .returned (.int .i64 b)∧Ext w w':=⟨by rw[h],hx⟩
theorem Vfm {F:Nat→Prop} {w:World} {v:Value} {l:List No} (h:RSl RNo 4 F w v l):
  Calls Tryz.prog 70 #[.agg #[v]] w fun e w'=>e= .returned (.int .i64 (Vd7 l))∧Ext w w':=by
 have HL:=hH (fun(W:World) (hx:Ext w W)=>h.ext gNo hx);obtain⟨a0,n0,c0,rfl⟩:=h.slice;obtain rfl:n0=l.length:=h.len.1;clear h;have hmm:= @run_makeMap Tryz.prog;by_cases h3:300<l.length
 ·have e3:Vd7 l=2:=by unfold Vd7;rw[if_pos h3]
  rw[e3];have k3:decide ((300:Int)<(l.length:Int))=true:=decide_eq_true oM;clear hmm e3;go_enter Tryz.func70,Tryz.ntmps70;go_wp2_with fail
  go_ret;exact⟨rfl,Qac⟩
 have e3:Vd7 l=Vee [] l:=by unfold Vd7;rw[if_neg h3]
 have k3:decide ((300:Int)<(l.length:Int))=false:=decide_eq_false oM;have E3:=hH e3;clear e3;go_enter Tryz.func70,Tryz.ntmps70;go_wp2_with fail
 refine Qad (fun wb ewb=> ?_);have b0:=rL ewb ⟨w.heap.size,0,none⟩ (.slice a0 l.length c0);have HXB:=hH (xE w ewb);have HMB:=hH (show Vk4 wb (w.heap.size+1) 0 (.map []) by rw[ewb,show w.heap.size+1=(w.alloc (Obj.cells #[Value.slice a0 l.length c0] 25)).heap.size by simp];exact World.ownsMap_made (w.alloc _) _ _ _);have hbs:w.heap.size+1<wb.heap.size:=HMB.o.lt;clear ewb;go_loopw [15] (fun iv wr=>∃(k:Nat) (D:DataW Unit),k≤l.length∧iv= .int .i64 k∧Hid (Vk4 wr (w.heap.size+1) k D)∧Hid (Vfj D (l.take k))∧Hid (Vee (l.take k) (l.drop k)=Vd7 l)∧Hid (Ext w wr)∧w.heap.size+1<wr.heap.size) (fun iv _=>l.length-(intOf iv).toNat)
 case atStart=>exact⟨0,_,Nat.zero_le _,rfl,HMB,hH Vf3,hH E3.out.symm,HXB,hbs⟩
 case round=>
  obtain⟨k,D,hk,rfl,HM,HS,HC,HX,hwr⟩:=hrel;clear hmm b0;by_cases hlt:k<l.length
  ·obtain⟨b,o,d,a1,n1,c1,a2,n2,c2,rfl,hb,ek,hd,y0,y1,y2,y3⟩:=Qdj (HL.o wr HX.o) hlt;have HCK:=hH (fun(W:World) (hx:Ext wr W)=>Qjl (gNo.ext hd hx));have i1:I64 d.site:=by obtain⟨_,_,_,i,_⟩:=hd;exact i
   have HWF:=WalkArith.wf_i64 i1;have hkl:(l.take k).length≤1000:=by rw[List.length_take];omega
   have HEK:=hH (Qmi ek);have hbr:b<wr.heap.size:=hb;have hcs:=HC.o;rw[Vfe ek] at hcs;have HST:=hH (fun c hc=>Vel (n:=d) (c:=c) HS.o hc hkl);have HLT:=hH (fun c1 c2 h1 h2=>Vjx (n:=d) (c1:=c1) (c2:=c2) HS.o h1 hkl h2);clear ek hd i1;by_cases hc:Qa0 d=0
   ·rw[hc] at HCK;rw[if_neg (by simpa using hc)] at hcs;by_cases hn:d.number=(Vep (l.take k) d.site:Int)+1
    ·rw[if_neg (by simpa using hn)] at hcs;rw[←hn] at HLT;have HCS:=hH hcs;clear hcs hc hn;generalize d.site=st at *;generalize d.number=nu at *;go_wp2_with (first|(go_at_call 74;go_must ((with_reducible refine(HCK.o _ Qac).mono ?_);rintro e w2 ⟨rfl,hx2⟩;have hz2:=hx2.size;(try simp at hz2);have hb2:=zL hx2 wr.heap.size;obtain⟨x0,x1⟩:=cC2 hx2 (wr.heap.size) (.int .i64 st) (.int .i64 nu);have HX2:=xX HX hx2;have HX2r:=xY wr hx2))|(at_lookup;refine wpList_lookup_own_int _ rfl _ _ 199 rfl 3 3 .i64 Vjw Tryz.underlying199 Tryz.underlying3 (Via _) (w.heap.size+1) k _ rfl (Vet HM.o (ext_trans HX2r.o Qac)) _ _ rfl (Go.Maps.keyOf_int_mk Tryz.underlying3 HWF) ?_;intro c1 hat1 hwc1)|(at_mapUpdate;refine wpList_mapUpdate_own _ rfl _ _ _ 199 rfl 3 3 Vjw Tryz.underlying199 _ (w.heap.size+1) k _ rfl (Vet HM.o (ext_trans HX2r.o Qac)) mO _ _ _ rfl rfl (Go.Maps.keyOf_int_mk Tryz.underlying3 HWF) _ [] (plainElem_int Tryz.underlying3 (wrap64_wf _)) ?_;intro w5 hown5 hg5;have hgr:=hg5.block wr.heap.size ltA (fun e=>by injection e with e;omega);have z0:w5.cell? ⟨wr.heap.size,0,none⟩=some (.int .i64 st):=(World.cell?_of_block (a:=⟨wr.heap.size,0,none⟩) hgr).trans gS;have z1:w5.cell? ⟨wr.heap.size,1,none⟩=some (.int .i64 nu):=(World.cell?_of_block (a:=⟨wr.heap.size,1,none⟩) hgr).trans gS;have HX5:=hH (show Ext w w5 from Qd5 (ext_trans HX2.o Qac) hg5 (fun j hj=>by cases hj;exact Nat.le_succ _));have hl5:w.heap.size+1<w5.heap.size:=hown5.lt;clear hg5 hgr HM)|(at_lookup;refine wpList_lookup_own_int _ rfl _ _ 199 rfl 3 3 .i64 Vjw Tryz.underlying199 Tryz.underlying3 (Via _) (w.heap.size+1) (k+1) _ rfl hown5 _ _ rfl (Go.Maps.keyOf_int_mk Tryz.underlying3 HWF) ?_;intro c2 hat2 hwc2;obtain rfl:nu=c2:=(HLT.o _ _ hat1 hat2).symm))
     go_roundw
     case rel=>exact⟨k+1,_,oM,by go_num,hH hown5,hH (by rw[HEK.o];exact(HST.o _ hat1).2),HCS,HX5,hl5⟩
     case measure=>simp[intOf];omega
    ·rw[if_pos hn] at hcs;have HNE:=hH (fun c1 c2 h1 h2 e=>hn ((show d.number=c2 from e).trans (HLT.o c1 c2 h1 h2)));have HCS:=hH hcs;clear hcs hc hn;generalize d.site=st at *;generalize d.number=nu at *;go_wp2_with (first|(go_at_call 74;go_must ((with_reducible refine(HCK.o _ Qac).mono ?_);rintro e w2 ⟨rfl,hx2⟩;have hz2:=hx2.size;(try simp at hz2);have hb2:=zL hx2 wr.heap.size;obtain⟨x0,x1⟩:=cC2 hx2 (wr.heap.size) (.int .i64 st) (.int .i64 nu);have HX2:=xX HX hx2;have HX2r:=xY wr hx2))|(at_lookup;refine wpList_lookup_own_int _ rfl _ _ 199 rfl 3 3 .i64 Vjw Tryz.underlying199 Tryz.underlying3 (Via _) (w.heap.size+1) k _ rfl (Vet HM.o (ext_trans HX2r.o Qac)) _ _ rfl (Go.Maps.keyOf_int_mk Tryz.underlying3 HWF) ?_;intro c1 hat1 hwc1)|(at_mapUpdate;refine wpList_mapUpdate_own _ rfl _ _ _ 199 rfl 3 3 Vjw Tryz.underlying199 _ (w.heap.size+1) k _ rfl (Vet HM.o (ext_trans HX2r.o Qac)) mO _ _ _ rfl rfl (Go.Maps.keyOf_int_mk Tryz.underlying3 HWF) _ [] (plainElem_int Tryz.underlying3 (wrap64_wf _)) ?_;intro w5 hown5 hg5;have hgr:=hg5.block wr.heap.size ltA (fun e=>by injection e with e;omega);have z0:w5.cell? ⟨wr.heap.size,0,none⟩=some (.int .i64 st):=(World.cell?_of_block (a:=⟨wr.heap.size,0,none⟩) hgr).trans gS;have z1:w5.cell? ⟨wr.heap.size,1,none⟩=some (.int .i64 nu):=(World.cell?_of_block (a:=⟨wr.heap.size,1,none⟩) hgr).trans gS;have HX5:=hH (show Ext w w5 from Qd5 (ext_trans HX2.o Qac) hg5 (fun j hj=>by cases hj;exact Nat.le_succ _));have hl5:w.heap.size+1<w5.heap.size:=hown5.lt;clear hg5 hgr HM)|(at_lookup;refine wpList_lookup_own_int _ rfl _ _ 199 rfl 3 3 .i64 Vjw Tryz.underlying199 Tryz.underlying3 (Via _) (w.heap.size+1) (k+1) _ rfl hown5 _ _ rfl (Go.Maps.keyOf_int_mk Tryz.underlying3 HWF) ?_;intro c2 hat2 hwc2;have t9:(nu !=c2)=true:=(by simpa using HNE.o _ _ hat1 hat2)))
     go_ret;exact rt2 HCS.o HX5.o
   ·rw[if_pos hc] at hcs;have t1:(Qa0 d !=0)=true:=by simpa using hc
    have HCS:=hH hcs;clear hcs hc HLT HST;generalize Qa0 d=cd at *;generalize d.site=st at *;generalize d.number=nu at *;go_wp2_with (first|(go_at_call 74;go_must ((with_reducible refine(HCK.o _ Qac).mono ?_);rintro e w2 ⟨rfl,hx2⟩;have hz2:=hx2.size;(try simp at hz2);have hb2:=zL hx2 wr.heap.size;obtain⟨x0,x1⟩:=cC2 hx2 (wr.heap.size) (.int .i64 st) (.int .i64 nu);have HX2:=xX HX hx2;have HX2r:=xY wr hx2)))
    go_ret;exact rt2 HCS.o HX2.o
  ·obtain rfl:k=l.length:=oM;have hce:=HC.o;rw[Vfl] at hce;have HCE:=hH hce;clear hce;go_wp2_with fail
   go_ret;exact rt2 HCE.o HX.o
def Vk7 (l:List No) (w:World) (e:Ending) (w':World):Prop:=∃u,e= .returned (.agg #[u])∧OSl RNo 4 48 w.heap.size (fun j=>w.heap.size≤j) w' u l∧Ext w w'
theorem Vgt {F:Nat→Prop} {w:World} {v:Value} {l:List No} (h:RSl RNo 4 F w v l) (hl:l.length≤1000) (hn:∀n∈l,Qa0 n=0):
  Calls Tryz.prog 97 #[.agg #[v]] w (Vk7 l w):=by
 have HO:=hH (fun(W:World) (hx:Ext w W)=>Qld (h.ext gNo hx) hl hn);obtain⟨a0,n0,c0,rfl⟩:=h.slice;clear h hn;go_enter Tryz.func97,Tryz.ntmps97;go_wp2_with (first|(go_at_call 99;go_must ((with_reducible refine(HO.o _ Qac).mono ?_);rintro e w3 ⟨v3,rfl,hv3,hx3⟩;obtain⟨a3,n3,c3,rfl⟩:=Qab hv3;have HL3:=hH (Qak hv3);have HV3:=hH hv3;have hz3:=hx3.size;(try simp at hz3);have r0:=cL hx3 (w.heap.size+1) 0 (.slice none 0 0);have rf:=fL hx3 (w.heap.size+1) 0;have hb3:w.heap.size+1<w3.heap.size:=oM;clear hv3)))
 have hs0:(w3.setCell ⟨w.heap.size+1,0,none⟩ (.slice a3 n3 c3)).cell? ⟨w.heap.size+1,0,none⟩=some (.slice a3 n3 c3):=World.cell?_setCell_same _ _ _ r0;refine bodyPost_ret (v:= .agg #[.slice a3 n3 c3]) (by simp[results,Tryz.results97,go_sem,hs0]) rfl ⟨_,rfl,?_,?_⟩
 ·refine Qbt gNo (Qcx ltA (Qa8 gNo HV3.o (Qae Qag (by intro _ h;have h':=Q9v (B:=w.heap.size+1+1) (fun k hk=>by have:=(HL3.o k hk).1;simp at this;omega) (Nat.lt_succ_self _) (h.imp (fun h=>by simp at h;omega) id);exact h') _))) (fun j hj _ _=> ?_);simp at hj
  show w.heap.size≤j
  omega
 ·exact ext_set (ext_trans Qac hx3) (by show w.heap.size≤w.heap.size+1;omega) _
theorem Vhf {a b:Int} {w w':World} (h:a=b) (hx:Ext w w'):Ending.returned (.int .i64 a)= .returned (.int .i64 b)∧Ext w w':=⟨by rw[h],hx⟩
theorem Vgi {n:Nat} (h:n≤1000):wrap64 ((n:Int)+1)=((n+1:Nat):Int):=by rw[IntWalk.wrap64_in _ oM];rfl
theorem Vfw {F:Nat→Prop} {w:World} {v:Value} {l:List No} (h:RSl RNo 4 F w v l):
  Calls Tryz.prog 67 #[.agg #[v]] w fun e w'=>e= .returned (.int .i64 (Vd7 l))∧Ext w w':=by
 have HL:=hH (fun(W:World) (hx:Ext w W)=>h.ext gNo hx);obtain⟨a0,n0,c0,rfl⟩:=h.slice;obtain rfl:n0=l.length:=h.len.1;clear h;have hmk:=Qt6;by_cases h3:300<l.length
 ·have e3:Vd7 l=2:=by unfold Vd7;rw[if_pos h3]
  rw[e3];have k3:decide ((300:Int)<(l.length:Int))=true:=decide_eq_true oM;clear hmk e3;go_enter Tryz.func67,Tryz.ntmps67;go_wp2_with fail
  go_ret;exact⟨rfl,Qac⟩
 have e3:Vd7 l=Vee [] l:=by unfold Vd7;rw[if_neg h3]
 have k3:decide ((300:Int)<(l.length:Int))=false:=decide_eq_false oM;have E3:=hH e3;clear e3;go_enter Tryz.func67,Tryz.ntmps67;go_wp2_with fail
 refine Qad (fun wb ewb=> ?_);have b0:=rL ewb ⟨w.heap.size,0,none⟩ (.slice a0 l.length c0);have HXB:=hH (xE w ewb);have HMB:=hH (show∀j,j<5→wb.cell? ⟨w.heap.size+1,j,none⟩=some (.int .i64 (Vep (l.take 0) (j:Int):Nat))∧wb.frozen? ⟨w.heap.size+1,j,none⟩=false by
  intro j hj;rw[ewb]
  match j,hj with
  |0,_=>exact⟨by go_simp;rfl,gS⟩
  |1,_=>exact⟨by go_simp;rfl,gS⟩
  |2,_=>exact⟨by go_simp;rfl,gS⟩
  |3,_=>exact⟨by go_simp;rfl,gS⟩
  |4,_=>exact⟨by go_simp;rfl,gS⟩
  |j+5,h=>omega)
 have hbs:w.heap.size+1<wb.heap.size:=World.block_lt_of_cell? _ _ (HMB.o 0 oM).1;clear ewb;go_loopw [4] (fun iv wr=>∃k:Nat,k≤l.length∧iv= .int .i64 k∧Hid (∀j,j<5→wr.cell? ⟨w.heap.size+1,j,none⟩=some (.int .i64 (Vep (l.take k) (j:Int):Nat))∧wr.frozen? ⟨w.heap.size+1,j,none⟩=false)∧Hid (Vee (l.take k) (l.drop k)=Vd7 l)∧Hid (Ext w wr)∧w.heap.size+1<wr.heap.size∧wr.cell? ⟨w.heap.size,0,none⟩=some (.slice a0 l.length c0)) (fun iv _=>l.length-(intOf iv).toNat)
 case atStart=>exact⟨0,Nat.zero_le _,rfl,HMB,hH E3.out.symm,HXB,hbs,b0⟩
 case round=>
  obtain⟨k,hk,rfl,HM,HC,HX,hwr,x0⟩:=hrel;clear hmk b0;by_cases hlt:k<l.length
  ·obtain⟨b,o,d,a1,n1,c1,a2,n2,c2,rfl,hb,ek,hd,y0',y1',y2',y3'⟩:=Qdj (HL.o w (ext_refl _)) hlt;have y0:=(HX.o.cells b _ hb).trans y0';have y1:=(HX.o.cells b _ hb).trans y1';have y2:=(HX.o.cells b _ hb).trans y2';have y3:=(HX.o.cells b _ hb).trans y3';have HCK:=hH (fun(W:World) (hx:Ext wr W)=>Qrs (gNo.ext hd (ext_trans HX.o hx)));have hbr:b<wr.heap.size:=oM;have hbw:¬b=w.heap.size+1:=oM;clear y0' y1' y2' y3';have hcs:=HC.o;rw[Vfe ek] at hcs;have HTK:=hH (fun site=>Viq ek site);have hkl:(l.take k).length≤300:=by rw[List.length_take];omega
   clear ek hd;by_cases hc:Qa0 d=0
   ·obtain⟨s,hs,hs5⟩:=Qnu (Qyp hc).1;rw[hc] at HCK;rw[if_neg (by simpa using hc)] at hcs;obtain⟨m0,mf⟩:=HM.o s hs5;have hle:=Vga (l.take k) (s:Int);have HTK2:=HTK.o (s:Int);rw[hs] at hcs y0 HTK;simp only[hs] at HCK;rw[if_pos hs] at HTK2;generalize hh:Vep (l.take k) (s:Int)=hn at *;have HW:=hH (Vgi (n:=hn) oM);have hsI:(s:Int)<5:=oM;by_cases hq:d.number=(hn:Int)+1
    ·rw[if_neg (by simpa using hq)] at hcs;have HCS:=hH hcs;have t9:(d.number !=((hn+1:Nat):Int))=false:=by rw[hq];simp
     clear hcs hc hq hle;generalize d.number=nu at *;go_wp2_with (first|(go_at_call 29;go_must ((with_reducible refine(HCK.o _ Qac).mono ?_);rintro e w2 ⟨rfl,hx2⟩;have hz2:=hx2.size;(try simp at hz2);have x0':=cL hx2 (b) (o+k * 4) (.int .i64 (s:Int));have x1':=cL hx2 (b) (o+k * 4+1) (.int .i64 nu);have x2':=cL hx2 (w.heap.size) (0) (.slice (some ⟨b,o,none⟩) l.length c0);have m0':=(hx2.cells (w.heap.size+1) s ltA).trans m0;have mf':=(hx2.frz (w.heap.size+1) s ltA).trans mf;have hB2:w.heap.size+1<w2.heap.size:=oM;have hb2:b<w2.heap.size:=oM;have HX2:=xX HX hx2)))
     refine Qad (fun W3 eW3=> ?_);have e0:=rL eW3 ⟨w.heap.size,0,none⟩ (.slice (some ⟨b,o,none⟩) l.length c0);have e1:=rL eW3 ⟨b,o+k * 4,none⟩ (.int .i64 (s:Int));have e2:=rL eW3 ⟨b,o+k * 4+1,none⟩ (.int .i64 nu);have e3:W3.cell? ⟨w.heap.size+1,s,none⟩=some (.int .i64 ((hn+1:Nat):Int)):=by rw[eW3,←HW.o];go_simp
     have hA:w.heap.size<W3.heap.size:=World.block_lt_of_cell? _ _ e0;have hB:w.heap.size+1<W3.heap.size:=World.block_lt_of_cell? _ _ e3;have hC:b<W3.heap.size:=World.block_lt_of_cell? _ _ e1;have HXW:=hH (show Ext w W3 by rw[eW3];exact ext_set (ext_trans HX2.o Qac) (Nat.le_succ _) _);have HM3:=hH (show∀j,j<5→W3.cell? ⟨w.heap.size+1,j,none⟩=some (.int .i64 (Vep (l.take (k+1)) (j:Int):Nat))∧W3.frozen? ⟨w.heap.size+1,j,none⟩=false by
      intro j hj;rw[eW3];refine⟨?_,(World.frozen?_setCell _ _ _ _).trans ((hx2.frz (w.heap.size+1) j ltA).trans (HM.o j hj).2)⟩;by_cases hjs:j=s
      ·subst hjs;rw[HTK2,←HW.o];exact World.cell?_setCell_same _ _ _ m0'
      ·rw[HTK.o (j:Int),if_neg oM];exact(World.cell?_setCell_other _ _ _ _ (fun e=>hjs (by injection e with _ e;exact e.symm))).trans ((hx2.cells (w.heap.size+1) j ltA).trans (HM.o j hj).1))
     clear eW3 HM HTK HTK2 m0 mf m0' mf' x0 x0' x1' x2' y0 y1 y2 y3;refine Qaa fol kR (fun hlater=> ?_);repeat(go_big_quiet_step (fail))
     refine wpQuiet_nil ?_;rintro W4 ⟨⟨w4x,hx3⟩,rfl⟩;clear hlater;go_wp2_with fail
     go_roundw
     case rel=>exact⟨k+1,oM,by go_num,hH (fun j hj=>⟨(hx3.cells _ j hB).trans (HM3.o j hj).1,(hx3.frz _ j hB).trans (HM3.o j hj).2⟩),HCS,hH (ext_trans HXW.o hx3),Nat.lt_of_lt_of_le hB hx3.size,(hx3.cells _ _ hA).trans e0⟩
     case measure=>simp[intOf];omega
    ·rw[if_pos hq] at hcs;have HCS:=hH hcs;have t9:(d.number !=((hn+1:Nat):Int))=true:=bne_iff_ne.2 (fun e=>hq (by rw[e];rfl));clear hcs hc hq hle;generalize d.number=nu at *;go_wp2_with (first|(go_at_call 29;go_must ((with_reducible refine(HCK.o _ Qac).mono ?_);rintro e w2 ⟨rfl,hx2⟩;have hz2:=hx2.size;(try simp at hz2);have x0':=cL hx2 (b) (o+k * 4) (.int .i64 (s:Int));have x1':=cL hx2 (b) (o+k * 4+1) (.int .i64 nu);have x2':=cL hx2 (w.heap.size) (0) (.slice (some ⟨b,o,none⟩) l.length c0);have m0':=(hx2.cells (w.heap.size+1) s ltA).trans m0;have mf':=(hx2.frz (w.heap.size+1) s ltA).trans mf;have hB2:w.heap.size+1<w2.heap.size:=oM;have hb2:b<w2.heap.size:=oM;have HX2:=xX HX hx2)))
     refine Qad (fun W3 eW3=> ?_);have e0:=rL eW3 ⟨w.heap.size,0,none⟩ (.slice (some ⟨b,o,none⟩) l.length c0);have e1:=rL eW3 ⟨b,o+k * 4,none⟩ (.int .i64 (s:Int));have e2:=rL eW3 ⟨b,o+k * 4+1,none⟩ (.int .i64 nu);have e3:W3.cell? ⟨w.heap.size+1,s,none⟩=some (.int .i64 ((hn+1:Nat):Int)):=by rw[eW3,←HW.o];go_simp
     have hA:w.heap.size<W3.heap.size:=World.block_lt_of_cell? _ _ e0;have hB:w.heap.size+1<W3.heap.size:=World.block_lt_of_cell? _ _ e3;have hC:b<W3.heap.size:=World.block_lt_of_cell? _ _ e1;have HXW:=hH (show Ext w W3 by rw[eW3];exact ext_set (ext_trans HX2.o Qac) (Nat.le_succ _) _);have HM3:=hH (show∀j,j<5→W3.cell? ⟨w.heap.size+1,j,none⟩=some (.int .i64 (Vep (l.take (k+1)) (j:Int):Nat))∧W3.frozen? ⟨w.heap.size+1,j,none⟩=false by
      intro j hj;rw[eW3];refine⟨?_,(World.frozen?_setCell _ _ _ _).trans ((hx2.frz (w.heap.size+1) j ltA).trans (HM.o j hj).2)⟩;by_cases hjs:j=s
      ·subst hjs;rw[HTK2,←HW.o];exact World.cell?_setCell_same _ _ _ m0'
      ·rw[HTK.o (j:Int),if_neg oM];exact(World.cell?_setCell_other _ _ _ _ (fun e=>hjs (by injection e with _ e;exact e.symm))).trans ((hx2.cells (w.heap.size+1) j ltA).trans (HM.o j hj).1))
     clear eW3 HM HTK HTK2 m0 mf m0' mf' x0 x0' x1' x2' y0 y1 y2 y3;refine Qaa fol kR (fun hlater=> ?_);repeat(go_big_quiet_step (fail))
     refine wpQuiet_nil ?_;rintro W4 ⟨⟨w4x,hx3⟩,rfl⟩;clear hlater;go_wp2_with fail
     go_ret;exact Vhf HCS.o (ext_trans HXW.o hx3)
   ·rw[if_pos hc] at hcs;have t1:(Qa0 d !=0)=true:=by simpa using hc
    have HCS:=hH hcs;clear hcs hc;generalize Qa0 d=cd at *;generalize d.site=st at *;generalize d.number=nu at *;go_wp2_with (first|(go_at_call 29;go_must ((with_reducible refine(HCK.o _ Qac).mono ?_);rintro e w2 ⟨rfl,hx2⟩;have hz2:=hx2.size;(try simp at hz2);have x0':=cL hx2 (b) (o+k * 4) (.int .i64 st);have x1':=cL hx2 (b) (o+k * 4+1) (.int .i64 nu);have x2':=cL hx2 (w.heap.size) (0) (.slice (some ⟨b,o,none⟩) l.length c0);have HX2:=xX HX hx2)))
    go_ret;exact Vhf HCS.o HX2.o
  ·obtain rfl:k=l.length:=oM;have hce:=HC.o;rw[Vfl] at hce;have HCE:=hH hce;clear hce;go_wp2_with fail
   go_ret;exact Vhf HCE.o HX.o
def Vfd (l:List No) (n:No):Int:=if(Vep l n.site:Int)+1<n.number then 4 else if n.number=(Vep l n.site:Int)+1∧l.length=300 then 2 else 0
def Vgj (l:List No) (n:No):Bool:=decide (n.number=(Vep l n.site:Int)+1) && decide (l.length≠300)
def Vg3 (l:List No) (n:No):List No:=if Vgj l n=true then l++[n] else l
theorem Vgu {l:List No} {n:No} (h:Vd7 l=0) (k:Qa0 n=0):Vhc l n=Vfd l n:=by unfold Vhc Vfd;rw[if_neg (by simpa using h),if_neg (by simpa using k)]
theorem Vj3 {l:List No} {n:No} (h:Vd7 l=0) (k:Qa0 n=0) (e:Vfd l n=0):Vhb l n=Vgj l n∧Vhd l n=Vg3 l n:=by
 have e':=(Vgu h k).trans e;have hb:Vhb l n=Vgj l n:=by
  unfold Vhb Vgj;rw[decide_eq_true e'];by_cases hq:n.number=(Vep l n.site:Int)+1
  ·rw[decide_eq_true hq];unfold Vfd at e;rw[if_neg oM] at e;by_cases h3:l.length=300
   ·rw[if_pos ⟨hq,h3⟩] at e;cases e
   ·rw[decide_eq_true h3]
  ·rw[decide_eq_false hq];rfl
 refine⟨hb,?_⟩;unfold Vg3;cases hc:Vgj l n with
 |true=>rw[if_pos rfl];exact(Vfc e').2.2.2.1 (hb.trans hc)
 |false=>rw[if_neg sI];exact(Vfc e').2.2.2.2 (hb.trans hc)
theorem Vi4 {l:List No} {i j k:Nat} (h1:i≤k) (h2:k=min l.length (i+j)):(l.drop i).take (k-i)=(l.drop i).take j:=by
 subst h2;by_cases h:i+j≤l.length
 ·rw[Nat.min_eq_right h,Nat.add_sub_cancel_left]
 ·rw[Nat.min_eq_left oM,List.take_of_length_le (by rw[List.length_drop];omega),List.take_of_length_le (by rw[List.length_drop];omega)]
theorem Vjd {i j:Nat} (h:i≤300) (k:j≤300):wrap64 ((i:Int)+(j:Int))=((i+j:Nat):Int):=by rw[IntWalk.wrap64_in _ oM];rfl
end Go.Proofs.YtgnccjojfebkeaaGreat
