/- The marks between two others, made. -/
import Derived.Test.YtgnccjojfebkeaaGreatQa50ddd2d9a
import Derived.Deep.RegionLaw
import Derived.Deep.DeepCutAuto
set_option linter.unusedVariables false
set_option linter.unusedSimpArgs false
set_option maxRecDepth 100000
set_option maxHeartbeats 4000000
namespace Go.Proofs.YtgnccjojfebkeaaGreat
open Go Go.RowKit Cp
def Q8m (l:List Mk) (er:Int) (w:World) (e:Ending) (w':World):Prop:=∃v,e= .returned (.tuple #[v,.int .i64 er])∧RSl RMk 2 (fun k=>w.heap.size≤k) w' v l∧Ext w w'
theorem Qn2 {a b:Mk} {site clock many:Int} (h:Qa5 a b site clock many=0):b.1≠[]→Qcq a.1 b.1= -1:=by
 obtain⟨ha,hb,_,_,_,_,hab,_,_⟩:=Qhm h;intro hne;cases hna:Qbf a with
 |true=>
  have:=noneM_true.1 hna;subst this;cases hb1:b.1 with
  |nil=>exact absurd hb1 hne
  |cons x y=>simp[Qcq]
 |false=>
  cases hnb:Qbf b with
  |true=>have:=noneM_true.1 hnb;subst this;simp at hne
  |false=>
   obtain⟨h1,h2⟩:=hab hna hnb;unfold Qau at h1;split at h1
   ·rename_i h3;exact absurd (ordP_zero.1 h3) h2
   ·exact h1
theorem Q2p:(Tryz.prog.info? 103).map (fun i=>(i.zero,i.size,i.bytes))=some (some (.agg #[.slice none 0 0,.int .i64 0]),2,32):=kR
theorem Qlp {T G:Prop} (h:T) (k:T→G):G:=k h
theorem Vdy {W:World} {r:Nat} {x y:Int} (h0:W.cell? ⟨r,0,none⟩=some (.int .i64 x)) (h1:W.cell? ⟨r,1,none⟩=some (.int .i64 y)) (ix:I64 x) (iy:I64 y) (hr:r<W.heap.size):
  RSl Qdt 2 (fun k=>k=r) W (.slice (some ⟨r,0,none⟩) 1 1) [(x,y)]:=
 Qbe (Qlf h0 h1) (Qbg rfl ⟨rfl,ix,iy⟩) rfl hr (Nat.le_refl _) mO
theorem Q21 {F G:Nat→Prop} {w:World} {cs ds:List Value} {a b:Mk} {site clock many:Int} (ha:RMk F w cs a) (hb:RMk G w ds b) (hc:I64 clock) (hm:I64 many):
  Calls Tryz.prog 211 #[.agg cs.toArray,.agg ds.toArray,.int .i64 site,.int .i64 clock,.int .i64 many] w
   (Q8m (if Qa5 a b site clock many=0 then Qdk a b site clock many else []) (Qa5 a b site clock many) w):=by
 have HFR:=hH (fun(W:World) (hx:Ext w W)=>Q52 (site:=site) (gMk.ext ha hx) (gMk.ext hb hx) hc hm);obtain⟨v,rfl,hl,_⟩:=ha;obtain⟨u,rfl,hmm,_⟩:=hb;obtain⟨l,c⟩:=a;obtain⟨m,d⟩:=b;simp only at hl hmm HFR ⊢;obtain⟨a1,n1,c1,rfl⟩:=hl.slice;obtain⟨a2,n2,c2,rfl⟩:=hmm.slice;obtain⟨rfl,_,_⟩:=hl.len;obtain⟨rfl,_,_⟩:=hmm.len;by_cases h0:Qa5 (l,c) (m,d) site clock many=0
 ·rw[if_pos h0];have t0:(Qa5 (l,c) (m,d) site clock many !=0)=false:=by rw[h0];rfl
  obtain⟨b1,b2,hs,hcl,hma,hcm,_,hla,hlb⟩:=Qhm h0;obtain⟨ra,_,_⟩:=Qli (l,c) b1;obtain⟨rb,lb,_⟩:=Qli (m,d) b2;have hga:=Qtq l m site (fun s hs=>⟨(ra s hs).1,(ra s hs).2.1⟩) (fun s hs=>⟨(rb s hs).1,(rb s hs).2.1⟩) lb (Qn2 h0);have hfi:=fun(W:World) (hx:Ext w W)=>Q5z (site:=site) (hl.ext Qap hx) (hmm.ext Qap hx) (fun s hs=>⟨(ra s hs).1,(ra s hs).2.1⟩) (fun s hs=>⟨(rb s hs).1,(rb s hs).2.1⟩) lb (Qn2 h0) (by simp at hlb;omega) (by unfold I64;omega)
  have hbe:Qdk (l,c) (m,d) site clock many=(List.range many.toNat).map fun(i:Nat)=>((Qcz (l,c) (m,d) site many).path++[((Qcz (l,c) (m,d) site many).least+(i:Int),site)],clock+(i:Int)):=rfl
  have hbg:Qcz (l,c) (m,d) site many=if(Qdp l m site).most-(Qdp l m site).least+1<many then⟨(Qdp l m site).path++[((Qdp l m site).least,site)],1,200⟩ else Qdp l m site:=rfl
  obtain⟨g1,g2,_,_⟩:=hga;simp only at hla hlb;have g3:(Qdp l m site).path.length≤8:=oM;generalize Qdp l m site=gp at hfi hbg g1 g2 g3;obtain⟨p,lo,hi⟩:=gp;simp only at hbg g1 g2 g3;obtain⟨g4,g5,g6⟩:=g1;obtain⟨s1,s2⟩:=hs;obtain⟨k1,k2⟩:=hcl;obtain⟨m1,m2⟩:=hma;have HFI:=hH hfi;have HBE:=hH hbe;have HBG:=hH hbg;clear hfi hbe hbg hl hmm b1 b2 ra rb lb hc hm g2;rw[h0] at HFR;rw[h0];clear t0 h0;obtain⟨i0,hi0,hz0,hz1,hz2⟩:=info_parts Qkt;have HI:=hH hi0;have HZ0:=hH hz0;have HZ1:=hH hz1;have HZ2:=hH hz2;clear hi0 hz0 hz1 hz2;obtain⟨i1,hi1,hy0,hy1,hy2⟩:=info_parts Q2p;have HJ:=hH hi1;have HY0:=hH hy0;have HY1:=hH hy1;have HY2:=hH hy2;clear hi1 hy0 hy1 hy2;go_enter Tryz.func211,Tryz.ntmps211;go_upto_if 39 with(first
   |(go_at_call 232;((with_reducible refine(HFR.o _ Qac).mono ?_);rintro e w1 ⟨rfl,hx1⟩;have c10:=cL hx1 w.heap.size 0 (.slice a1 l.length c1);have c20:=cL hx1 (w.heap.size+1) 0 (.slice a2 m.length c2);have hz1:=hx1.size;(try simp at hz1);have HX1:=hH hx1;clear hx1))
   |(go_at_call 233;go_must ((with_reducible refine(HFI.o _ (by repeat(first|(with_reducible exact ext_refl _)|(with_reducible refine ext_drew ?_)|(with_reducible refine ext_drewN ?_ _)|(with_reducible refine ext_alloc ?_ _)|(with_reducible refine ext_set ?_ ltA _)|(with_reducible refine Qan ?_ HX1.o)))).mono ?_);rintro e w2 ⟨v2,rfl,hv2,hx2⟩;obtain⟨a3,n3,c3,rfl⟩:=hv2.slice;obtain⟨rfl,q3,q3'⟩:=hv2.len;have hz2:=hx2.size;have HV2:=hH hv2;have HX2:=hH (Qan HX1.o hx2);clear hx2 hv2)))
  go_cut [13] from 39 (fun g wc=>g= .pointer (some ⟨w2.heap.size,0,none⟩)∧∃(pa:Option Addr) (pn pc:Nat) (p':List Stp) (lo':Int),Hid ((Qcz (l,c) (m,d) site many).path=p'∧(Qcz (l,c) (m,d) site many).least=lo')∧wc.cell? ⟨w2.heap.size,0,none⟩=some (.slice pa pn pc)∧wc.cell? ⟨w2.heap.size,1,none⟩=some (.int .i64 lo')∧
   Hid (RSl Qdt 2 (fun _=>True) wc (.slice pa pn pc) p')∧Ext w wc∧p'.length≤9∧1≤lo'∧lo'+many≤201∧w2.heap.size<wc.heap.size)
  case first=>
   by_cases hw:hi-lo+1<many
   ·have t1:decide (hi-lo+1<many)=true:=decide_eq_true hw;have HG:=hH (show Qcz (l,c) (m,d) site many=⟨p++[(lo,site)],1,200⟩ by rw[HBG.o,if_pos hw]);go_wp2_with fail
    have HCL:=hH (fun(W:World) (hx:Ext (w2.alloc (.cells #[.slice a3 p.length c3,.int .i64 lo,.int .i64 hi] 280)) W)=>Qex (HV2.o.ext Qap (ext_trans (ext_alloc (ext_refl _) _) hx)) oM);go_region_law (first
     |((refine Qa7 Qap rfl (.tmp 42) (.tmp 47) 101 rfl (w2.heap.size+1) 196 i0 _ 2 16 Tryz.underlying101 HI.o HZ0.o HZ1.o HZ2.o rfl oM (F:=fun _=>True) _ p rfl (Qai Qap HV3.o (by repeat(first|(with_reducible exact ext_refl _)|(with_reducible refine ext_drew ?_)|(with_reducible refine ext_drewN ?_ _)|(with_reducible refine ext_alloc ?_ _)|(with_reducible refine ext_set ?_ ltA _)))) _ [(lo,site)] rfl (Vdy asG asG (Qal oM oM) (Qal oM oM) ltA) Ql8 (fun k hk _=>⟨trivial,fun e=>by have:=HO3.o k e.symm;simp at this;omega⟩) (by simp only[maxLen,List.length_cons,List.length_nil];omega) (by simp only[List.length_cons,List.length_nil];omega) ltA ?_);intro v4 w4 hown4 hg4 hat4;obtain⟨a5,n5,c5,rfl⟩:=Qab hown4;have hxg:Ext (w2.alloc (.cells #[.slice a3 p.length c3,.int .i64 lo,.int .i64 hi] 280)) w4:=Qao (by repeat(first|(with_reducible exact ext_refl _)|(with_reducible refine ext_drew ?_)|(with_reducible refine ext_drewN ?_ _)|(with_reducible refine ext_alloc ?_ _)|(with_reducible refine ext_set ?_ ltA _)|(with_reducible refine Qan ?_ hx3))) hg4 (fun k hk=>by have:=(HO3.o k hk).1;simp at this ⊢;omega);obtain⟨zg0,zg1,zg2⟩:=cC3 hxg (w2.heap.size) (.slice a3 p.length c3) (.int .i64 lo) (.int .i64 hi);have zf0:=fL hxg (w2.heap.size) 0;have zf1:=fL hxg (w2.heap.size) 1;have zf2:=fL hxg (w2.heap.size) 2;have hz4:=hxg.size;(try simp at hz4);have HV4:=hH hown4;have HX4:=hH hxg;clear hown4 hg4 hat4 hx3)
     |(go_simp;go_at_call 225;go_must ((with_reducible refine(HCL.o _ (by repeat(first|(with_reducible exact ext_refl _)|(with_reducible refine ext_drew ?_)|(with_reducible refine ext_drewN ?_ _)|(with_reducible refine ext_alloc ?_ _)|(with_reducible refine ext_set ?_ ltA _)))).mono ?_);rintro e w3 ⟨v3,rfl,hv3,hx3⟩;obtain⟨a4,n4,c4,rfl⟩:=Qab hv3;have HV3:=hH (Qcx (base':=w2.heap.size+1) sO hv3);have HO3:=hH (Qak hv3);have hz3:=hx3.size;(try simp at hz3);obtain⟨cc0,cc1⟩:=cC2 hx3 w2.heap.size (.slice a3 p.length c3) (.int .i64 lo);(try(refine Qlp ((hx3.cells (w2.heap.size+1) 0 ?_).trans (?_:_=some (.int .i64 lo))) (fun cr0=> ?_);(· simp);(· go_simp)));(try(refine Qlp ((hx3.cells (w2.heap.size+1) 1 ?_).trans (?_:_=some (.int .i64 site))) (fun cr1=> ?_);(· simp);(· go_simp)));clear hv3)))
    all_goals (go_wp2_with fail;go_meet)
    all_goals (refine⟨rfl,a5,n5,c5,p++[(lo,site)],1,by rw[HG.o];exact⟨rfl,rfl⟩,gS,gS,?_,?_,sP,oM,oM,sP⟩)
    all_goals first
     |exact RSl.more Qap (fun _ _ _=>trivial) (RSl.keep Qap (F:=fun k=>k≠w2.heap.size) (Qae (Qae (Qae Qag (fun _ h=>h rfl) _) (fun _ h=>h rfl) _) (fun _ h=>h rfl) _) (Qaz Qap (Qf3 Qi5 (G:=fun _=>False) HV4.o) (fun _ h _=>h.elim) (fun k hk=>by omega)))
     |exact(by repeat(first|(with_reducible exact ext_refl _)|(with_reducible refine ext_drew ?_)|(with_reducible refine ext_drewN ?_ _)|(with_reducible refine ext_alloc ?_ _)|(with_reducible refine ext_set ?_ ltA _)|(with_reducible refine Qan ?_ HX4.o)|(with_reducible refine Qan ?_ HX2.o)))
   ·have t1:decide (hi-lo+1<many)=false:=decide_eq_false hw;have HG:=hH (show Qcz (l,c) (m,d) site many=⟨p,lo,hi⟩ by rw[HBG.o,if_neg hw]);go_wp2_with fail
    go_meet
    refine⟨rfl,a3,p.length,c3,p,lo,by rw[HG.o];exact⟨rfl,rfl⟩,gS,gS,(HV2.o.ext Qap (ext_alloc (ext_refl _) _)).more Qap (fun _ _ _=>trivial),ext_alloc (ext_trans (ext_alloc (ext_alloc (ext_refl _) _) _) HX2.o) _,oM,oM,oM,sI⟩
  case rest=>
   obtain⟨rfl,a4,n4,c4,p',lo',hgap,e0,e1,HP,HXC,b1,b2,b3,b4⟩:=hcut;obtain⟨rfl,_,_⟩:=HP.o.len;have HL:=hH (show Qdk (l,c) (m,d) site clock many=(List.range many.toNat).map fun(i:Nat)=>(p'++[(lo'+(i:Int),site)],clock+(i:Int)) by rw[HBE.o,hgap.out.1,hgap.out.2]);go_wp2_with fail
   go_loopw [14,51] (fun v i wr=>∃k:Nat,k≤many.toNat∧i= .int .i64 k∧Hid (OSl RMk 2 103 wc.heap.size (fun k=>wc.heap.size≤k) wr v ((List.range k).map fun(i:Nat)=>(p'++[(lo'+(i:Int),site)],clock+(i:Int))))∧Ext wc wr) (fun _ i _=>many.toNat-(intOf i).toNat)
   case atStart=>exact⟨0,oM,rfl,Qbn,ext_refl _⟩
   case round=>
    obtain⟨k,hk,rfl,hv,hx⟩:=hrel;obtain⟨a6,n6,c6,rfl⟩:=Qab hv.out;have HX:=hH hx;obtain⟨e2,e3⟩:=tT2 hx b4 e0 e1;have hsw:=hx.size;have hn1:¬w2.heap.size=wr.heap.size:=oM;have hn2:¬wr.heap.size=w2.heap.size:=oM;have hn3:w2.heap.size<wr.heap.size:=oM;clear hx;by_cases h1:(k:Int)<many
    ·have t2:decide ((k:Int)<many)=true:=decide_eq_true h1;have HCL:=hH (fun(W:World) (hx:Ext wr W)=>Qex (HP.o.ext Qap (ext_trans HX.o hx)) oM);have HW1:=hH (show IntKind.i64.wrap (lo'+(k:Int))=lo'+(k:Int) from IntWalk.i64_in _ oM);go_wp2_with fail
     have hw1:=HW1.o;go_region_law (first
      |((refine Qa7 Qap rfl (.tmp 56) (.tmp 63) 101 rfl wr.heap.size 196 i0 _ 2 16 Tryz.underlying101 HI.o HZ0.o HZ1.o HZ2.o rfl oM (F:=fun _=>True) _ p' rfl (Qai Qap HV5.o (by repeat(first|(with_reducible exact ext_refl _)|(with_reducible refine ext_drew ?_)|(with_reducible refine ext_drewN ?_ _)|(with_reducible refine ext_alloc ?_ _)|(with_reducible refine ext_set ?_ ltA _)))) _ [(lo'+(k:Int),site)] rfl (Vdy asG asG (Qal oM oM) (Qal oM oM) ltA) Ql8 (fun j hj _=>⟨trivial,fun e=>by have:=HO5.o j e.symm;simp at this;omega⟩) (by simp only[maxLen,List.length_cons,List.length_nil];omega) (by simp only[List.length_cons,List.length_nil];omega) ltA ?_);intro v6 w6 hown6 hg6 hat6;obtain⟨a8,n8,c8,rfl⟩:=Qab hown6;have hxg:Ext wr w6:=Qao (by repeat(first|(with_reducible exact ext_refl _)|(with_reducible refine ext_drew ?_)|(with_reducible refine ext_drewN ?_ _)|(with_reducible refine ext_alloc ?_ _)|(with_reducible refine ext_set ?_ ltA _)|(with_reducible refine Qan ?_ hx5))) hg6 (fun j hj=>by have:=(HO5.o j hj).1;simp at this ⊢;omega);have hz6:=hxg.size;have HV6:=hH hown6;have HX6:=hH hxg;clear hown6 hg6 hat6 hx5 hxg)
      |(go_simp;go_at_call 225;go_must ((with_reducible refine(HCL.o _ (by repeat(first|(with_reducible exact ext_refl _)|(with_reducible refine ext_drew ?_)|(with_reducible refine ext_drewN ?_ _)|(with_reducible refine ext_alloc ?_ _)|(with_reducible refine ext_set ?_ ltA _)))).mono ?_);rintro e w5 ⟨v5,rfl,hv5,hx5⟩;obtain⟨a7,n7,c7,rfl⟩:=Qab hv5;have HV5:=hH (Qcx (base':=wr.heap.size) sO hv5);have HO5:=hH (Qak hv5);have hz5:=hx5.size;(try simp at hz5);have cc1:=cL hx5 w2.heap.size 1 (.int .i64 lo');(try(refine Qlp ((hx5.cells wr.heap.size 0 ?_).trans (?_:_=some (.int .i64 (lo'+(k:Int))))) (fun cr0=> ?_);(· simp);(· go_simp)));(try(refine Qlp ((hx5.cells wr.heap.size 1 ?_).trans (?_:_=some (.int .i64 site))) (fun cr1=> ?_);(· simp);(· go_simp)));clear hv5)))
     all_goals clear hw1
     all_goals (have HM6:∀W,Ext w6 W→RMk (fun j=>wr.heap.size≤j) W [.slice a8 n8 c8,.int .i64 (clock+(k:Int))] (p'++[(lo'+(k:Int),site)],clock+(k:Int)):=fun W hW=>⟨_,rfl,(Qaz Qap (Qf3 Qi5 (G:=fun _=>False) HV6.o) (fun _ h _=>h.elim) (fun j hj=>hj)).ext Qap hW,Qal (by simp only[];omega) (by simp only[];omega)⟩)
     all_goals go_wp2_with (at_builtin;go_must (refine Qds gMk rfl (.tmp 65) (.tmp 71) 40 rfl wc.heap.size 103 i1 _ 2 32 Tryz.underlying40 HJ.o HY0.o HY1.o HY2.o rfl oM (F:=fun k=>wc.heap.size≤k) (G:=fun k=>wr.heap.size≤k) (.slice a6 n6 c6) ((List.range k).map fun(i:Nat)=>(p'++[(lo'+(i:Int),site)],clock+(i:Int))) rfl (Qai gMk hv.out (ext_alloc HX6.o _)) w6.heap.size 0 1 [.slice a8 n8 c8,.int .i64 (clock+(k:Int))] (p'++[(lo'+(k:Int),site)],clock+(k:Int)) rfl rfl (Qlf gS gS) (Qf1 (fun j=>wr.heap.size≤j) (w6.alloc (.cells #[.slice a8 n8 c8,.int .i64 (clock+(k:Int))] 103)) [.slice a8 n8 c8,.int .i64 (clock+(k:Int))] (p'++[(lo'+(k:Int),site)],clock+(k:Int)) (HM6 (w6.alloc (.cells #[.slice a8 n8 c8,.int .i64 (clock+(k:Int))] 103)) (ext_alloc (ext_refl _) _))) (HM6 (w6.alloc (.cells #[.slice a8 n8 c8,.int .i64 (clock+(k:Int))] 103)) (ext_alloc (ext_refl _) _)) (fun j hj _=>⟨oM,fun e=>by have:=(Qak hv.out j e.symm).2;omega⟩) (by simp only[List.length_map,List.length_range,maxLen];omega) (by simp only[List.length_map,List.length_range];omega) ltA ?_;intro v9 w9 hown9 hg9 hat9;have hx9:Ext wc w9:=Qao (ext_alloc (ext_trans HX.o HX6.o) _) hg9 (fun j hj=>(Qak hv.out j hj).1);have HV9:=hH hown9;have HX9:=hH hx9;clear hown9 hg9 hat9 hx9))
     all_goals go_roundw
     all_goals first
      |exact⟨k+1,oM,by go_num,hH (by rw[List.range_succ,List.map_append];exact HV9.o),HX9.o⟩
      |(simp[intOf];omega)
    ·have t2:decide ((k:Int)<many)=false:=decide_eq_false h1;have hkm:k=many.toNat:=oM;go_wp2_with fail
     refine bodyPost_ret (v:= .tuple #[.slice a6 n6 c6,.int .i64 0]) (by simp[results,Tryz.results211,go_sem]) rfl ⟨_,rfl,?_,ext_trans HXC HX.o⟩;rw[HL.o,←hkm];exact Qaz gMk hv.out (fun j hj _=>Nat.le_trans HXC.size hj) (fun j hj=>Nat.le_trans HXC.size hj)
 ·rw[if_neg h0];have t0:(Qa5 (l,c) (m,d) site clock many !=0)=true:=by simpa using h0
  clear hl hmm;clear h0;go_enter Tryz.func211,Tryz.ntmps211;go_wp2_with (go_at_call 232;((with_reducible refine(HFR.o _ Qac).mono ?_);rintro e w1 ⟨rfl,hx1⟩;have hc1:=hx1.cells;have hz1:=hx1.size;(try simp at hz1);obtain⟨hb1_0,hb1_1⟩:=zL2 hx1 w.heap.size))
  refine bodyPost_ret (v:= .tuple #[.slice none 0 0,.int .i64 (Qa5 (l,c) (m,d) site clock many)]) (by simp[results,Tryz.results211,go_sem]) rfl ⟨_,rfl,RSl.nil_ (Nat.zero_le _),Qac⟩
end Go.Proofs.YtgnccjojfebkeaaGreat
