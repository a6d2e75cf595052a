/- Who does deeds: a run is put. -/
import Derived.RangeFuncNested
import Derived.RangeFuncBound
import Derived.RangeFuncCalls
import Derived.RangeFuncLeaves
import Derived.Shelf.Abstract
import Derived.Shelf.RegionOpen
import Derived.WalkKit
import Derived.OwnWalkIn
import Derived.TacticsInMore
import Derived.LoopNIn
import Derived.LoopIn
import Derived.Test.YtgnccjojfebkeaaGreatQ586d2f0b75
import Derived.Test.YtgnccjojfebkeaaGreatQf21f87fce6
import Derived.Test.YtgnccjojfebkeaaGreatQ3471126dda
import Derived.Deep.RegionLaw
import Derived.Test.YtgnccjojfebkeaaGreatQed8dd0ae12
import Derived.Test.YtgnccjojfebkeaaGreatQb497ca1fba
import Derived.Test.YtgnccjojfebkeaaGreatQ453a98ae2d
set_option linter.unusedVariables false
set_option linter.unusedSimpArgs false
set_option maxRecDepth 100000
set_option maxHeartbeats 4000000
namespace Go.Proofs.YtgnccjojfebkeaaGreat
open Go Go.RowKit Go.BigFrame Cp
attribute [local go_sem] Oper.semAt_some
theorem Q0i {F:Fence} {n:Nat} {P:Program} {c:Code} {Q:Exit→Act→World→Prop} {a:Act} {w:World} (h:∀W,W=w→c.wpIn F n P Q a W):c.wpIn F n P Q a w:=h w rfl
def Vb5 (K:Act→World→Prop):Exit→Act→World→Prop
 | .normal,a,w=>K a w
 |_,_,_=>False
theorem Q4p {F:Fence} {n:Nat} {P:Program} {c:Code} {Q:Exit→Act→World→Prop} {a:Act} {w:World} (h:c.wpIn F n P (Vb5 (fun a w=>Q .normal a w)) a w):c.wpIn F n P Q a w:=
 wpIn_mono h fun e a w hq=>by cases e<;>first|exact hq|exact hq.elim
theorem Qq0 {W W':World} (h:Ext W W'):KeepsOthers W W':=⟨Below.size h,fun k o hk _=>(Below.block h k (Array.getElem?_eq_some_iff.1 hk).1).trans hk⟩
theorem Qqm {α:Type} (p:α→Bool) (x:α):[x].filter p=if p x=true then [x] else []:=by cases h:p x<;>simp[h]
theorem Q13 {Z:Nat→Prop} {B b:Nat} {s:St} {w V w4 W':World} {v u v4:Value} {l:List At} (h:DoerIs Z B b s w v u) (hV:Ext w V) (hv4:OSl RAt 3 129 V.heap.size (fun j=>V.heap.size≤j) w4 v4 l) (hx:Ext V w4) (hZ:∀j,Z j→j<w.heap.size)
  (hk:Keeps (fun j=>(j<w.heap.size∧j≠b)∨V.heap.size≤j) w4 W') (c0:W'.cell? ⟨b,0,none⟩=some v4) (c1:W'.cell? ⟨b,1,none⟩=some u) (fz:∀o,W'.frozen? ⟨b,o,none⟩=false):
  DoerIs Z B b (l,s.2) W' v4 u:=by
 have hb:=Qgo h;have hru:=Qak h.og;have hrv:=Qak hv4;have hVs:=hV.size;have h4:OSl RAt 3 129 B (fun j=>B≤j∧j≠b∧some j≠u.ownBlock) W' v4 l:=by
  refine Qc8 gAt (Qcx (base:=V.heap.size) (by have:=h.le;omega) (Qa8 gAt hv4 (hk.weaken (fun j _ hj=> ?_)))) (fun k hk _ _=>⟨by have:=h.le;omega,oM,fun e=>by have:=(hru k e.symm).2;omega⟩);rcases hj with hj|hj
  ·exact .inr hj
  ·exact .inr (hrv j hj.symm).1
 have h5:OSl RMk 2 103 B (fun j=>B≤j∧j≠b∧some j≠v4.ownBlock) W' u s.2:=by
  have h5':OSl RMk 2 103 B (fun j=>(B≤j∧j≠b∧some j≠v.ownBlock)∧j<w.heap.size) w u s.2:=Qc8 gMk h.og (fun k hk hl _=>⟨hk,hl⟩);refine Qc8 gMk (Qa8 gMk (Qai gMk h5' (ext_trans hV hx)) (hk.weaken (fun j _ hj=> ?_))) (fun k hk _ _=>⟨hk.1.1,hk.1.2.1,fun e=>by have:=(hrv k e.symm).1;omega⟩);rcases hj with hj|hj
  ·exact .inl ⟨hj.2,hj.1.2.1⟩
  ·exact .inl ⟨(hru j hj.symm).2,(h.rg j hj.symm).1⟩
 refine⟨c0,c1,fz,h4,h5,fun j hj=>⟨fun e=> ?_,?_,fun hz=> ?_⟩,h.rg,h.le,h.nz⟩
 ·have h1:=(hrv j hj).1;have h2:=(hru j e).2;omega
 ·have:=(hrv j hj).1;omega
 ·have h1:=(hrv j hj).1;have h2:=hZ j hz;omega
theorem Qwa {Z:Nat→Prop} {a w:World} (h:Kept Z a w) {k:Nat} (hk:¬Z k) (o:Obj):Kept Z a (w.putObj k o):=
 ⟨h.os,h.tape,h.output,by simp only[World.putObj,Array.size_setIfInBounds];exact h.size,fun j hj hl=>(World.putObj_heap_other (fun e=>hk (by first|(rw[←e];exact hj)|(rw[e];exact hj)))).trans (h.block j hj hl)⟩
theorem Qn5 {w:World} {k b:Nat} (h:b≠k) (o:Nat) (x:Obj):(w.putObj k x).cell? ⟨b,o,none⟩=w.cell? ⟨b,o,none⟩:=World.cell?_of_block (a:=⟨b,o,none⟩) (World.putObj_heap_other oM)
theorem Qy5 {w:World} {k b:Nat} (h:b≠k) (o:Nat) (x:Obj):(w.putObj k x).frozen? ⟨b,o,none⟩=w.frozen? ⟨b,o,none⟩:=World.frozen?_of_block (a:=⟨b,o,none⟩) (World.putObj_heap_other oM)
theorem Qtp {l:List At} {p:At→Bool} (h:Qec l):Qec (l.filter p):=by
 obtain⟨hs,ha⟩:=h;refine⟨?_,fun a hm=>ha a (List.mem_filter.1 hm).1⟩;clear ha;induction l with
 |nil=>trivial
 |cons x r ih=>
  rw[List.filter_cons];split
  ·exact Qg9 (ih (Qb3 hs)) (fun b hb=>Qcc hs b (List.mem_filter.1 hb).1)
  ·exact ih (Qb3 hs)
theorem Q5v {Z F:Nat→Prop} {w:World} {B b:Nat} {s:St} {v u:Value} {cs:List Value} {r:Rn} (h:DoerIs Z B b s w v u) (hrn:RRn F w cs r) (hcr:Qbd r=0) (hZ:∀j,Z j→j<w.heap.size)
  (hs:Qec s.1) (hg:Qca s.2) (hl3:s.1.length≤300) (hn:s.2.length≤1000):
  Calls Tryz.prog 228 #[.pointer (some ⟨b,0,none⟩),.agg cs.toArray] w (fun e w'=>e= .returned (.tuple #[])∧Qpx Z B b (Qd7 s.2 s.1 (Qav r),s.2) w'∧Kept Z w w'):=by
 have hbw:=Qgo h;have HD:=hH (fun(W:World) (hx:Ext w W)=>Qbm h hx);obtain⟨v0,u0,rfl,hl,hi,hu⟩:=hrn;obtain⟨⟨l,c⟩,t⟩:=r;simp only at hl hi hu hcr ⊢;have hra:=Qx7 (Qjv hcr);have HRA:=hH hra;obtain⟨sx,rfl,rfl,hsx⟩:=Qby hu;obtain⟨a1,n1,c1,rfl⟩:=hl.slice;have HL:=hH hl;obtain⟨la,lg⟩:=s;simp only at hs hg hl3 hn ⊢;have HMG:=hH (fun(W:World) (hx:Ext w W) (G:Nat→Prop) (ds:List Value) (m:Mk) (hm:RMk G W ds m)=>(Qkr (Qbm h hx).c1 (Qid (Qbm h hx)) hm hg oM:Calls Tryz.prog 247 #[.pointer (some ⟨b,0,none⟩),.agg ds.toArray] W (fun e w'=>e= .returned (.tuple #[.int .i64 (Qd0 lg m:Nat),.bool (Qc5 lg m)])∧Ext W w')));have HSR:=hH hs;obtain⟨av,nv,cv,rfl⟩:=Qab h.oa;obtain⟨au,nu,cu,rfl⟩:=Qab h.og;have HZ:=hH hZ;clear hl hu h hs hg hZ hra;have hs60:sx.size≤60:=by simpa using (Qb1 hcr).2.2.1
 refine(callsIn_wide (n:=6)).1 ?_;refine callsIn_of_wp_marks Tryz.func228 rfl trivial ?_ rfl;simp only[Tryz.ntmps228,List.size_toArray,List.length_cons,List.length_nil,Nat.reduceAdd,Nat.reduceSub,Array.replicate_succ,Array.replicate_zero,List.push_toArray,List.append_toArray,List.nil_append,List.cons_append]
 gi_wp2_with (refine⟨trivial,?_⟩;gi_at_call 246;refine(callsIn_wide.2 (Q5w _ _ _ _ _)).mono ?_;rintro e w2 ⟨rfl,rfl⟩)
 refine Q0i (fun W0 eW0=> ?_);have k0:=rL eW0 ⟨w.heap.size+2,0,none⟩ (.slice none 0 0);have k1:W0.frozen? ⟨w.heap.size+2,0,none⟩=false:=by rw[eW0];go_simp
 obtain⟨k2,k3,k4⟩:=rR3 eW0 (w.heap.size+3) (.slice a1 n1 c1) (.int .i64 c) (.string sx);have k5:=rL eW0 ⟨w.heap.size,0,none⟩ (.pointer (some ⟨b,0,none⟩));have hs0:w.heap.size+4≤W0.heap.size:=by rw[eW0];simp
 have hs0':W0.heap.size≤w.heap.size+4:=by rw[eW0];simp
 have hx0:=xE w eW0;clear eW0;obtain⟨i0,hi0,hz0,hz1',hz2⟩:=info_parts Qks;obtain⟨f,hf⟩:∃f:Nat→At,f=fun(i:Nat)=>(Qar (l,c) (i:Int),sx.data.toList.getD i 0):=⟨_,rfl⟩
 have hat:Qav ((l,c),sx.data.toList)=(List.range sx.size).map f:=by
  unfold Qav;rw[hf];have:sx.data.toList.length=sx.size:=sI;simp only[this]
 have HFF:=hH hf;have HAT:=hH hat;clear hf hat;obtain⟨pk,hpk⟩:∃pk:At→Bool,pk=fun a=> !Qc5 lg a.1:=⟨_,rfl⟩
 have HPK:=hH hpk;clear hpk;refine Qnd (F:=Fence.wide) (n:=6) rfl oM (gf:=255) (lb:=#[.pointer (some ⟨w.heap.size+3,0,none⟩)]) rfl trivial (enters_of Tryz.func255 kR rfl)
  (Fk:=fun k=>k≠w.heap.size+2∧k<W0.heap.size) (Q16 (n:=5) oM (Bn:=w.heap.size+3) ⟨oM,oM⟩ oM ((RSl.more Qap (G:=fun k=>k<w.heap.size) (fun _ _ hk=>hk) HL.o).ext Qap hx0) (fun j hj=>⟨oM,oM⟩) hi hcr k2 k3 k4)
  (fun h=>by omega) (ext_refl _) (fun _=>rfl)
  (fun(pre:List Yd) (W:World)=>∃v,W.cell? ⟨w.heap.size+2,0,none⟩=some v∧W.frozen? ⟨w.heap.size+2,0,none⟩=false∧W.cell? ⟨w.heap.size,0,none⟩=some (.pointer (some ⟨b,0,none⟩))∧OSl RAt 3 129 (W0.heap.size+2) (fun j=>W0.heap.size+2≤j) W v ((pre.map Yd.at_).filter pk)∧pre.map Yd.at_=(List.range pre.length).map f∧Ext w W)
  ?ie ?ip ⟨_,k0,k1,k5,Qbn,rfl,hx0⟩
  (fun(pre:List Yd) (x:Yd) (a':Act) (W:World)=>∃Bx v m,W0.heap.size+2≤Bx∧W.cell? ⟨w.heap.size+2,0,none⟩=some v∧(∀k,v.ownBlock=some k→k<m)∧W0.heap.size+2≤m∧RSl Qdt 2 (fun j=>m≤j) W (.slice x.a x.n x.c) x.at_.1.1∧x.at_=f pre.length∧I64 x.at_.1.2∧
   W.cell? ⟨Bx,0,none⟩=some (.slice x.a x.n x.c)∧W.cell? ⟨Bx,1,none⟩=some (.int .i64 x.at_.1.2)∧W.cell? ⟨Bx,2,none⟩=some (.int .u8 (x.at_.2.toNat:Int))∧
   a'={tmps:=#[.pointer (some ⟨b,0,none⟩),.agg #[.slice a1 n1 c1,.int .i64 c,.string sx],.pointer (some ⟨w.heap.size,0,none⟩),.pointer (some ⟨w.heap.size+1,0,none⟩),.pointer (some ⟨w.heap.size+2,0,none⟩),.pointer (some ⟨Bx,0,none⟩),undef,undef,.agg #[.slice a1 n1 c1,.int .i64 c,.string sx],.func (.func 255) #[] #[.pointer (some ⟨w.heap.size+3,0,none⟩)],.agg #[.slice x.a x.n x.c,.int .i64 x.at_.1.2,.int .u8 (x.at_.2.toNat:Int)],undef,undef,undef,undef,undef,undef,undef,undef,undef,undef,undef,undef,undef,undef,undef,undef,undef,undef,undef,undef,undef,undef,undef,undef],defers:=[]})
  ?ap ?assign ?body ?done
 case ie=>
  rintro pre A Bq ⟨v,h1,h2,h2',h3,h4,h5⟩ he;have hlt:=World.block_lt_of_cell? _ _ h1;have hlt':=World.block_lt_of_cell? _ _ h2';exact⟨v,(he.cells _ _ hlt).trans h1,(he.frz _ _ hlt).trans h2,(he.cells _ _ hlt').trans h2',Qai gAt h3 he,h4,ext_trans h5 he⟩
 case ip=>
  rintro pre W o' ⟨v,h1,h2,h2',h3,h4,h5⟩ hlt;have hb:(W.putObj (W0.heap.size+1) o').heap[w.heap.size+2]?=W.heap[w.heap.size+2]?:=World.putObj_heap_other oM;have hb':(W.putObj (W0.heap.size+1) o').heap[w.heap.size]?=W.heap[w.heap.size]?:=World.putObj_heap_other oM;exact⟨v,(World.cell?_of_block (a:=⟨w.heap.size+2,0,none⟩) hb).trans h1,(World.frozen?_of_block (a:=⟨w.heap.size+2,0,none⟩) hb).trans h2,(World.cell?_of_block (a:=⟨w.heap.size,0,none⟩) hb').trans h2',
   Qa8 gAt h3 (Qif (fun h=>by rcases h with h|h;(· omega);(· have:=(Qak h3 _ h.symm).1;omega)) o'),h4,Qy3 h5 oM o'⟩
 case ap=>
  rintro pre x a' W o' ⟨Bx,v,m,h1,h2,h3,h4,h5,h6,h7,h8,h9,h10,h11⟩ hlt;have hb:∀k,k≠W0.heap.size+1→(W.putObj (W0.heap.size+1) o').heap[k]?=W.heap[k]?:=fun k hk=>World.putObj_heap_other oM
  exact⟨Bx,v,m,h1,(World.cell?_of_block (a:=⟨w.heap.size+2,0,none⟩) (hb (w.heap.size+2) oM)).trans h2,h3,h4,h5.keep Qap (Qif (fun h=>by omega) o'),h6,h7,
   (World.cell?_of_block (a:=⟨Bx,0,none⟩) (hb Bx oM)).trans h8,(World.cell?_of_block (a:=⟨Bx,1,none⟩) (hb Bx oM)).trans h9,(World.cell?_of_block (a:=⟨Bx,2,none⟩) (hb Bx oM)).trans h10,h11⟩
 case assign=>
  rintro pre x Wp W K ⟨v,h1,h2,h2',h3,h4,h5⟩ he hsz ⟨r1,r2,r3⟩ hK;have hlt:=World.block_lt_of_cell? _ _ h1;have hc:=(he.cells _ _ hlt).trans h1;have hzW:=he.size;have R1:=hH (r1.trans (congrFun HFF.o.symm _));clear r1;have hoW:w.heap.size+2<W.heap.size:=Nat.lt_of_lt_of_le hlt hzW;dsimp only[Vc8]
  gi_wp2
  refine hK _ _ ?e1 ?e2
  case e1=>exact ext_alloc (ext_refl _) _
  case e2=>exact⟨W.heap.size,v,Wp.heap.size,oM,gS,fun k hk=>(Qak h3 k hk).2,hsz,r2.ext Qap (ext_alloc (ext_refl _) _),R1.out,r3,gS,gS,gS,rfl⟩
 case body=>
  rintro pre x a' W ⟨v,h1,h2,h2',h3,h4,h5⟩ ⟨Bx,v',m,q1,q2,q3,q4,q5,q6,q7,q8,q9,q10,rfl⟩ hlen hsz;obtain rfl:v'=v:=by rw[h1] at q2;exact(Option.some.inj q2).symm
  obtain⟨ao,no,co,rfl⟩:=Qab h3;have hpl:((pre.map Yd.at_).filter pk).length≤pre.length:=by have:=List.length_filter_le pk (pre.map Yd.at_);simpa using this
  obtain⟨q,hq⟩:∃q,q=(pre.map Yd.at_).filter pk:=⟨_,rfl⟩;rw[←hq] at h3 hpl;have HQ:=hH hq;have H4:=hH h4;obtain rfl:no=q.length:=(Qa2 h3).1;clear hq h4;have Q6:=hH q6;clear q6;have hown:=Qak h3;have hcl:=Qwi h3;have hoW:w.heap.size+2<W.heap.size:=oM;have hBW:Bx<W.heap.size:=World.block_lt_of_cell? _ _ q8;have HGX:=hH (fun(V:World) (hx:Ext W V)=>HMG.o V (ext_trans h5 hx) (fun j=>m≤j) [.slice x.a x.n x.c,.int .i64 x.at_.1.2] x.at_.1 (Qam (q5.ext Qap hx) q7));have HPX:Hid (pk x.at_= !Qc5 lg x.at_.1):=hH (by rw[HPK.o]);cases hh:Qc5 lg x.at_.1 with
  |true=>
   rw[hh] at HGX;generalize Qd0 lg x.at_.1=pg at *
   gi_wp2_with ((refine⟨trivial,?_⟩;gi_at_call 247;refine(callsIn_wide.2 (HGX.o _ (ext_refl _))).mono ?_;rintro e w3 ⟨rfl,hx3⟩;have hz3:=hx3.size;have hz3a:w.heap.size+2<w3.heap.size:=oM;have hz3b:w.heap.size<w3.heap.size:=oM;have hz3c:Bx<w3.heap.size:=oM;have p0:=(hx3.cells _ _ hoW).trans h1;have pf0:=(hx3.frz _ _ hoW).trans h2;have p1:=(hx3.cells _ _ hBW).trans q8;have p2:=(hx3.cells _ _ hBW).trans q9;have p3:=(hx3.cells _ _ hBW).trans q10;have p4:=(hx3.cells _ _ oM).trans h2'))
   go_simp
   refine⟨(Qq0 hx3).from _,Qdq Qag hx3,.slice ao q.length co,p0,pf0,p4,?_,?_,ext_trans h5 hx3⟩
   ·rw[List.map_append,List.filter_append,List.map_singleton,Qqm,HPX.o,hh,←HQ.o];simpa using Qai gAt h3 hx3
   ·rw[List.map_append,H4.out,List.length_append]
    show _++[x.at_]=_
    rw[Q6.out];exact(Qpe f pre.length).symm
  |false=>
   rw[hh] at HGX;generalize Qd0 lg x.at_.1=pg at *
   gi_wp2_with (first
    |(refine⟨trivial,?_⟩;gi_at_call 247;refine(callsIn_wide.2 (HGX.o _ (ext_refl _))).mono ?_;rintro e w3 ⟨rfl,hx3⟩;have hz3:=hx3.size;have hz3a:w.heap.size+2<w3.heap.size:=oM;have hz3b:w.heap.size<w3.heap.size:=oM;have hz3c:Bx<w3.heap.size:=oM;have p0:=(hx3.cells _ _ hoW).trans h1;have pf0:=(hx3.frz _ _ hoW).trans h2;have p1:=(hx3.cells _ _ hBW).trans q8;have p2:=(hx3.cells _ _ hBW).trans q9;have p3:=(hx3.cells _ _ hBW).trans q10;have p4:=(hx3.cells _ _ oM).trans h2')
    |(gi_at_builtin;refine Qsz gAt rfl (.tmp 20) (.tmp 22) 39 rfl (W0.heap.size+2) 129 i0 _ 3 40 Tryz.underlying39 hi0 hz0 hz1' hz2 rfl oM (G:=fun j=>W0.heap.size+2≤j) (H:=fun j=>m≤j) (.slice ao q.length co) q rfl (Qai gAt h3 (ext_trans hx3 (ext_alloc (ext_refl _) _))) w3.heap.size 0 1 [.slice x.a x.n x.c,.int .i64 x.at_.1.2,.int .u8 (x.at_.2.toNat:Int)] x.at_ rfl rfl (Qfi gS gS gS) (Qe7 _ _ _ x.at_ ⟨_,rfl,q5,q7⟩) ⟨_,rfl,q5.ext Qap (ext_trans hx3 (ext_alloc (ext_refl _) _)),q7⟩ (fun j hj _=>⟨(show W0.heap.size+2≤j by omega),fun e=>by have:=q3 j e.symm;omega⟩) mO oM sP ?_;intro v9 w9 hown9 hg9 hat9;have o9:=(World.cell?_of_block (a:=⟨w.heap.size+2,0,none⟩) (hg9.block (w.heap.size+2) sP (fun e=>by have:=(hown _ e.symm).1;omega))).trans (show _=some (.slice ao q.length co) by go_simp);have of9:=(World.frozen?_of_block (a:=⟨w.heap.size+2,0,none⟩) (hg9.block (w.heap.size+2) sP (fun e=>by have:=(hown _ e.symm).1;omega))).trans (show _=false by go_simp);have ox9:=(World.cell?_of_block (a:=⟨w.heap.size,0,none⟩) (hg9.block w.heap.size sP (fun e=>by have:=(hown _ e.symm).1;omega))).trans (show _=some (.pointer (some ⟨b,0,none⟩)) by go_simp);obtain⟨a9,n9,c9,rfl⟩:=Qab hown9))
   refine⟨((((Qq0 hx3).trans (KeepsOthers.alloc w3 _)).trans (KeepsOthers.of_grownBy hg9 fun j o ej hj=> ?_)).trans (KeepsOthers.setCell _ _ _)).from _,?_,.slice a9 n9 c9,gS,gS,gS,?_,?_,?_⟩
   ·exact hcl j o ej (by have hj':j<W.heap.size:=(hown j ej).2;rw[←hj];exact((Below.heap_alloc w3 _ j oM).trans (Below.block hx3 j hj')).symm)
   ·exact Qae ((Qa1 (Qdq Qag hx3) _).trans ⟨hg9.size,fun j hj hlt=>hg9.block j hlt (fun e=>by have:=(hown _ e.symm).1;omega)⟩) (fun _ h=>h.1 rfl) _
   ·have h9:=Qa8 gAt hown9 (w':=w9.setCell ⟨w.heap.size+2,0,none⟩ (.slice a9 n9 c9)) (Qae Qag (fun _ h=>by
     rcases h with h|h
     ·have:W0.heap.size+2≤w.heap.size+2:=h;omega
     ·have:=(Qak hown9 _ h.symm).1;have h':W0.heap.size+2≤w.heap.size+2:=this;omega) _)
    rw[List.map_append,List.filter_append,List.map_singleton,Qqm,HPX.o,hh,←HQ.o];simpa using h9
   ·rw[List.map_append,H4.out,List.length_append]
    show _++[x.at_]=_
    rw[Q6.out];exact(Qpe f pre.length).symm
   ·exact ext_set (Qao (ext_alloc (ext_trans h5 hx3) _) hg9 (fun j hj=>by have:=(hown j hj).1;omega)) (show w.heap.size≤w.heap.size+2 by omega) _
 case done=>
  rintro xs W hlen ⟨v,h1,h2,h2',h3,h4,h5⟩ hsz hK;obtain⟨ao,no,co,rfl⟩:=Qab h3;have hfin:=Qaz gAt h3 (G:=fun j=>W0.heap.size+2≤j) (fun j hj _=>hj) (fun j hj=>hj);have hWs:=h5.size;have hlx:w.heap.size+2<W.heap.size:=oM;have hbx:w.heap.size<W.heap.size:=oM;have hbW:b<W.heap.size:=oM;have hd:=HD.o W h5;have HDW:=hH (fun(V:World) (hx:Ext W V)=>HD.o V (ext_trans h5 hx));have c0:=hd.c0;have f0:=hd.fz 0;obtain⟨fl,hfl⟩:∃fl,fl=(Qav ((l,c),sx.data.toList)).filter pk:=⟨_,rfl⟩;have hfe:(xs.map Yd.at_).filter pk=fl:=by rw[hfl,HAT.o,h4,hlen]
  rw[hfe] at hfin;have hrf:Qec fl:=by rw[hfl];exact Qtp HRA.o
  have hfl60:fl.length≤300:=by
   rw[hfl];refine Nat.le_trans (List.length_filter_le _ _) ?_;rw[HAT.o];simp;omega
  have HMR:=hH (fun(V:World) (hx:Ext W V)=>(Q23 ((Qql hd).ext gAt hx) (hfin.ext gAt hx) HSR.o hrf hl3 hfl60));have HRS:=hH (show Qcf la fl=Qd7 lg la (Qav ((l,c),sx.data.toList)) by rw[Qeu,hfl,HPK.o]);have HH5:=hH h5;have HKK:=hH hK;clear h3 h4 hfin hfl hfe hrf hd hK HDW;have hmx:Tryz.prog.follows .mixedOrders=true:=fol;have h1n:1≤6:=oM
  gi_wp2
  refine Q4p ?_;refine wpIn_wide.2 ?_;go_region_law ((go_simp;go_at_call 248;go_must ((with_reducible refine(HMR.o _ Qac).mono ?_);rintro e w8 ⟨v8,rfl,hv8,hx8⟩;obtain⟨a8,n8,c8,rfl⟩:=Qab hv8;have HV8:=hH hv8;have HX8:=hH hx8;have hs8:=hx8.size;(try simp at hs8);have m0:=cL hx8 b 0 (.slice av nv cv);have mf:=fL hx8 b 0;have m1:=cL hx8 w.heap.size 0 (.pointer (some ⟨b,0,none⟩));clear hv8)))
  all_goals go_wp2
  all_goals dsimp only[Vb5]
  all_goals
   have hxw:Ext w W.drew:=ext_drew HH5.o;have hb8:b<w8.heap.size:=oM;have hdf:(w8.setCell ⟨b,0,none⟩ (.slice a8 n8 c8)).heap[W0.heap.size]?=some (.deferred (some [])):=
    (Below.heap_setCell w8 ⟨b,0,none⟩ _ _ (fun e=>by have e':W0.heap.size=b:=e;omega)).trans ((Below.block HX8.o _ (show W0.heap.size<W.heap.size by omega)).trans HKK.o)
   have hd8:=HD.o w8 (ext_trans hxw HX8.o);refine⟨sI,.inl ⟨_,_,rfl,run_takeDeferred hdf,?_⟩⟩;refine⟨.tuple #[],by simp[results,Tryz.results228,go_sem],rfl,⟨_,_,Q13 (s:=(la,lg)) (HD.o w (ext_refl w)) hxw (by rw[←HRS.o];exact HV8.o) HX8.o HZ.o ?_ ?_ ?_ (fun o=> ?_)⟩,?_⟩
   ·refine Keeps.trans (Qae Qag (fun _ h=> ?_) _) (Qif (fun h=> ?_) _)
    ·rcases h with h|h
     ·exact h.2 rfl
     ·have h':W.heap.size≤b:=h;omega
    ·rcases h with h|h
     ·omega
     ·have h':W.heap.size≤W0.heap.size:=h;omega
   ·refine(Qn5 oM 0 _).trans ?_;go_simp
   ·refine(Qn5 oM 1 _).trans ?_;have:=hd8.c1;go_simp
   ·refine(Qy5 oM o _).trans ?_;have:=hd8.fz o;go_simp
   ·exact Qwa (Qsb (Qa3 (Qbs hxw) (Qbs HX8.o)) hd8.nz _) (fun h=>by have:=HZ.o _ h;omega) _
theorem Qwd (m:Mk) (k:Nat):Qbr m (k+1)=Qbr m k++[Qar m (k:Int)]:=by unfold Qbr;rw[List.range_succ,List.map_append];rfl
theorem Qzx (l ms:List Mk) (m:Mk):Qc9 l (ms++[m])=Qmf (Qc9 l ms) m:=by simp[Qc9]
theorem Q3z {F:Nat→Prop} {w:World} {v s u:Value} {d:De} (h:RDe F w [.int .i64 d.kind,v,.int .i64 d.run.1.2,s,u,.int .i64 d.mark.2,.int .i64 d.many] d):RRn F w [v,.int .i64 d.run.1.2,s] d.run∧RMk F w [u,.int .i64 d.mark.2] d.mark:=by
 obtain⟨v',s',u',e,_,h1,h2,h3,h4,h5,_⟩:=h;simp at e;obtain⟨rfl,rfl,rfl⟩:=e;exact⟨⟨_,_,rfl,h1,h2,h3⟩,⟨_,rfl,h4,h5⟩⟩
theorem Q92 {Z F:Nat→Prop} {w:World} {B b:Nat} {s:St} {v u:Value} {cs:List Value} {d:De} (h:DoerIs Z B b s w v u) (hde:RDe F w cs d) (hc:Qat d=0) (hF:∀j,F j→Z j) (hZ:∀j,Z j→j<w.heap.size)
  (hs:Qec s.1) (hg:Qca s.2) (hl3:s.1.length≤300) (hn:s.2.length≤600):
  Calls Tryz.prog 202 #[.pointer (some ⟨b,0,none⟩),.agg cs.toArray] w (fun e w'=>e= .returned (.bool (!Qcb (Qbp s d)))∧Qpx Z B b (Qbp s d) w'∧Kept Z w w'):=by
 have hbw:=Qgo h;obtain⟨v0,x0,u0,rfl,hk,h1,h2,h3,h4,h5,h6⟩:=hde;have hboth:=Q3z ⟨v0,x0,u0,rfl,hk,h1,h2,h3,h4,h5,h6⟩;obtain⟨a1,n1,c1,rfl⟩:=h1.slice;obtain⟨a2,n2,c2,rfl⟩:=h4.slice;obtain⟨sx,rfl,_⟩:=Qby h3;obtain⟨hrn,hmk⟩:=hboth;have HRN:=hH (fun(W:World) (hx:Ext w W)=>gRn.ext hrn hx);obtain⟨Y,hY⟩:∃Y:Nat→Prop,Y=fun j=>Z j∨j=w.heap.size:=⟨_,rfl⟩
 have HMK:=hH (show RMk Y w [.slice a2 n2 c2,.int .i64 d.mark.2] d.mark from gMk.more (fun j hj _=>by rw[hY];exact .inl (hF j hj)) hmk);have HDZ:=hH (fun(W:World) (hx:Ext w W)=>Qbm h hx);have HDY:=hH (fun(W:World) (hx:Ext w W)=>Qbm (Qom (Y:=Y) h (by rw[hY];exact fun j hj=>hj.elim .inl (fun e=> .inr oM))) hx);have HYZ:=hH (show∀j,Z j→Y j by rw[hY];exact fun j hj=> .inl hj);have HYB:=hH (show Y w.heap.size by rw[hY];exact .inr rfl);have HYL:=hH (show∀j,Y j→j≤w.heap.size by rw[hY];exact fun j hj=>hj.elim (fun h=>Nat.le_of_lt (hZ j h)) (fun h=>by omega));have HZ:=hH hZ;have HS:=hH hs;have HG:=hH hg;clear h h1 h2 h3 h4 h5 h6 hk hrn hmk hY hF hZ hs hg;by_cases hkd:d.kind=1
 ·obtain⟨hc1,hc2,hc3⟩:=Qge hc hkd;have hE:Qbp s d=(Qd7 s.2 s.1 (Qav d.run),s.2):=by unfold Qbp;rw[if_pos hkd]
  rw[hE];have HPU:=hH (fun(W:World) (hx:Ext w W)=>Q5v (HDZ.o W hx) (HRN.o W hx) hc1 (fun j hj=>Nat.lt_of_lt_of_le (HZ.o j hj) hx.size) HS.o HG.o hl3 oM);have hkk:(d.kind==1)=true:=by simpa using hkd
  obtain⟨la,lg⟩:=s;simp only at HPU hE hl3 hn ⊢;generalize Qd7 lg la (Qav d.run)=la' at *;clear hE hc HMK HDY HYZ HYB HYL HDZ HRN;go_enter Tryz.func202,Tryz.ntmps202;go_wp2_with (first|(go_at_call 228;go_must ((with_reducible refine(HPU.o _ Qac).mono ?_);rintro e w3 ⟨rfl,⟨v3,u3,hd3⟩,hk3⟩;obtain⟨a3,n3,c3,rfl⟩:=Qab hd3.oa;obtain⟨a4,n4,c4,rfl⟩:=Qab hd3.og;have HD3:=hH hd3;have HK3:=hH hk3;have p0:=hd3.c0;have p1:=hd3.c1;obtain rfl:=(Qa2 hd3.oa).1;obtain rfl:=(Qa2 hd3.og).1;clear hd3 hk3)))
  all_goals go_ret
  all_goals refine⟨rb ?_,⟨_,_,HD3.o⟩,Qa3 (Qbs Qac) HK3.o⟩
  all_goals (rw[Bool.eq_iff_iff];simp[Qcb];omega)
 ·obtain⟨hc1,hc2,⟨n,hn0,hn1,hn2⟩,hc4,hc5,hc6⟩:=Qfx hc hkd;have hE:Qbp s d=(Qbb s.1 (Qbr d.mark n),Qc9 s.2 (Qbr d.mark n)):=by
   have:Qbl d=Qbr d.mark n:=by unfold Qbl;rw[if_neg hkd,hn0];simp
   unfold Qbp;rw[if_neg hkd,this]
  rw[hE];have hkk:(d.kind==1)=false:=by simpa using hkd
  obtain⟨la,lg⟩:=s;simp only at hE hl3 hn HS HG ⊢;have HAF:=hH (fun(k:Nat) (hk:k<n) (W:World) (hx:RMk Y W [.slice a2 n2 c2,.int .i64 d.mark.2] d.mark)=>Qh7 (k:=(k:Int)) hx (Qcn hc2) (Qew hc2) (Qc6 hc2) (Qbu hc2) ⟨oM,oM⟩);generalize hdm:d.mark=dm at *;generalize d.kind=dk at *;generalize d.many=dn at *;generalize d.run=dr at *;subst hn0;clear hc1 hkd hc hE HDZ HRN hc6 hc5 hc4 hdm;go_enter Tryz.func202,Tryz.ntmps202;go_wp2_with fail
  refine Qad (fun w1 ew1=> ?_);have b4:=rL ew1 ⟨w.heap.size,4,none⟩ (.slice a2 n2 c2);have b5:=rL ew1 ⟨w.heap.size,5,none⟩ (.int .i64 dm.2);have hw1:=xE w ew1;have hs1:w.heap.size<w1.heap.size:=by rw[ew1];first|omega|(simp<;>omega)
  clear ew1;have HW1:=hH hw1;go_loopw [15] (fun iv wr=>∃k:Nat,k≤n∧iv= .int .i64 k∧Hid (Qpx Y B b (Qbb la (Qbr dm k),Qc9 lg (Qbr dm k)) wr)∧Hid (Kept Y w1 wr)) (fun iv _=>n-(intOf iv).toNat)
  case atStart=>exact⟨0,Nat.zero_le _,rfl,hH ⟨_,_,by have:=HDY.o w1 HW1.o;simpa [Qbr,Q35,Qc9] using this⟩,hH Qkv⟩
  case round=>
   obtain⟨k,hk,rfl,HD,HK⟩:=hrel;have x4:=(HK.o.cell HYB.o hs1 4).trans b4;have x5:=(HK.o.cell HYB.o hs1 5).trans b5;have hsr:=HK.o.size;have hbr:w.heap.size<wr.heap.size:=oM;obtain⟨v3,u3,hd3⟩:=HD.o;have HD3:=hH hd3;have HMR:=hH (show RMk Y wr [.slice a2 n2 c2,.int .i64 dm.2] dm from gMk.keep (Qa3 (Qbs HW1.o) HK.o).keeps HMK.o);clear b4 b5 hd3;by_cases hlt:k<n
   ·have HTK:=hH (fun(W:World) (hx:Ext wr W) (ds:List Value) (m:Mk) (hm:RMk (fun j=>wr.heap.size≤j) W ds m)=>Q7k HD3.o hx hm (fun j hj=>by have:=HYL.o j hj;have:=hx.size;omega) (Qpl HS.o).1 (Qgj HG.o) (Nat.le_trans (Q34 _ _) oM) (Nat.le_trans (Qpa _ _) (by rw[Qgz];show lg.length+k≤1000;omega)));have hex:(Qbb (Qbb la (Qbr dm k)) [Qar dm k],Qmf (Qc9 lg (Qbr dm k)) (Qar dm k))=(Qbb la (Qbr dm (k+1)),Qc9 lg (Qbr dm (k+1))):=by rw[Qwd,Q37,Qzx]
    have HEX:=hH hex;have HA:=hH (HAF.o k hlt);clear hex;go_wp2_with (first|(go_at_call 199;go_must ((with_reducible refine(HA.o _ HMR.o).mono ?_);rintro e w3 ⟨cs3,rfl,hm3,hx3⟩;have HM3:=hH (Qem hm3);obtain⟨v5,rfl,hv5,hi5⟩:=hm3;obtain⟨a5,n5,c5,rfl⟩:=Qab hv5;have HX3:=hH hx3;have hs3:=hx3.size;clear hv5))|(go_at_call 229;go_must ((with_reducible refine(HTK.o _ HX3.o _ _ HM3.o).mono ?_);rintro e w4 ⟨rfl,ht4⟩;have HT4:=hH ht4;clear ht4)))
    go_roundw
    case rel=>
     exact⟨k+1,oM,by go_num,hH (by have:=HT4.o.1;rw[HEX.o] at this;exact this),hH (Qa3 HK.o (Qa3 (Qbs HX3.o) HT4.o.2))⟩
    case measure=>simp[intOf];omega
   ·obtain rfl:k=n:=oM;obtain⟨a3,n3,c3,rfl⟩:=Qab HD3.o.oa;obtain⟨a4,n4,c4,rfl⟩:=Qab HD3.o.og;have p0:=HD3.o.c0;have p1:=HD3.o.c1;have e3:=(Qa2 HD3.o.oa).1;have e4:=(Qa2 HD3.o.og).1;simp only at e3 e4;have HFIN:=hH (show Qpx Z B b (Qbb la (Qbr dm k),Qc9 lg (Qbr dm k)) wr from⟨_,_,Qom HD3.o (fun j hj=> .inl (HYZ.o j hj))⟩);have HKF:=hH ((Qa3 (Qbs HW1.o) HK.o).less HYZ.o);subst e3 e4;clear HD HD3 HK;go_wp2
    all_goals go_ret
    all_goals refine⟨rb ?_,HFIN.o,HKF.o⟩
    all_goals (rw[Bool.eq_iff_iff];simp[Qcb];omega)
def Qyh (B:Nat) (s:St) (W:World) (v u:Value):Prop:=OSl RAt 3 129 B (fun j=>B≤j∧some j≠u.ownBlock) W v s.1∧OSl RMk 2 103 B (fun j=>B≤j∧some j≠v.ownBlock) W u s.2∧∀j,v.ownBlock=some j→u.ownBlock≠some j
def Va1 (o:Option St) (w:World) (e:Ending) (w':World):Prop:=match o with
 |none=>e= .returned (.tuple #[.agg #[.slice none 0 0,.slice none 0 0],.bool false])∧Ext w w'
 |some t=>∃v u,e= .returned (.tuple #[.agg #[v,u],.bool true])∧Qyh w.heap.size t w' v u∧Ext w w'
theorem Q62 {B b base:Nat} {Z:Nat→Prop} {s:St} {w w':World} {v u:Value} (h:DoerIs Z B b s w v u) (hb:base≤B) (hk:Keeps (fun j=>B≤j) w w'):Qyh base s w' v u:=by
 have h1:=Qak h.oa;have h2:=Qak h.og;refine⟨Qc8 gAt (Qcx hb (Qa8 gAt h.oa (hk.weaken (fun j _ hj=> ?_)))) (fun k hk _ _=>⟨oM,hk.2.2⟩),Qc8 gMk (Qcx hb (Qa8 gMk h.og (hk.weaken (fun j _ hj=> ?_)))) (fun k hk _ _=>⟨oM,hk.2.2⟩),fun j hj=>(h.ra j hj).1⟩
 ·rcases hj with hj|hj
  ·exact hj.1
  ·exact(h1 j hj.symm).1
 ·rcases hj with hj|hj
  ·exact hj.1
  ·exact(h2 j hj.symm).1
theorem Q9k {Z:Nat→Prop} {B b:Nat} {s:St} {w w':World} {v u:Value} (h1:OSl RAt 3 129 B (fun j=>B≤j∧some j≠u.ownBlock) w v s.1) (h2:OSl RMk 2 103 B (fun j=>B≤j∧some j≠v.ownBlock) w u s.2) (h3:∀j,v.ownBlock=some j→u.ownBlock≠some j)
  (hx:Ext w w') (hb:w.heap.size≤b) (hB:B≤b) (c0:w'.cell? ⟨b,0,none⟩=some v) (c1:w'.cell? ⟨b,1,none⟩=some u) (fz:∀o,w'.frozen? ⟨b,o,none⟩=false) (hZ:∀j,Z j→j<B):DoerIs Z B b s w' v u:=by
 have r1:=Qak h1;have r2:=Qak h2;have h1':=Qai gAt (Qc8 gAt h1 (G:=fun j=>B≤j∧j≠b∧some j≠u.ownBlock) (fun k hk hl _=>⟨hk.1,oM,hk.2⟩)) hx;have h2':=Qai gMk (Qc8 gMk h2 (G:=fun j=>B≤j∧j≠b∧some j≠v.ownBlock) (fun k hk hl _=>⟨hk.1,oM,hk.2⟩)) hx;exact⟨c0,c1,fz,h1',h2',fun j hj=>⟨h3 j hj,by have:=(r1 j hj).2;omega,fun hz=>by have:=(r1 j hj).1;have:=hZ j hz;omega⟩,fun j hj=>⟨by have:=(r2 j hj).2;omega,fun hz=>by have:=(r2 j hj).1;have:=hZ j hz;omega⟩,hB,fun hz=>by have:=hZ b hz;omega⟩
theorem Qx6 {F G:Nat→Prop} {w:World} {cs:List Value} {s:St} {x:Value} {l:List De} (h:RSt F w cs s) (hl:RSl RDe 7 G w x l) (hs:Qpy s) (hd:∀d∈l,Qat d=0):
  Calls Tryz.prog 161 #[.agg cs.toArray,x] w (Va1 (Qfc s l) w):=by
 have HOW:=hH (fun(W:World) (hx:Ext w W)=>Qm0 (gSt.ext h hx) (by have:=hs.2.1;omega) (by have:=hs.2.2;omega) (fun a ha=>Qcn (hs.1.1.2 a ha).1) (fun m hm=>Qcn (hs.1.2.2.1 m hm)));have hl':RSl RDe 7 (fun j=>j<w.heap.size) w x l:=RSl.more gDe (fun _ _ hk=>hk) hl;have HL:=hH (fun(W:World) (hx:Ext w W)=>hl'.ext gDe hx);obtain⟨v,u,rfl,h1,h2⟩:=h;obtain⟨a0,n0,c0,rfl⟩:=h1.slice;obtain⟨a1,n1,c1,rfl⟩:=h2.slice;obtain⟨a2,n2,c2,rfl⟩:=hl'.slice;obtain rfl:n2=l.length:=hl'.len.1;have hll:l.length≤9223372036854775807:=by have:=hl'.len;unfold maxLen at this;omega
 have HFS:=hH hs;have HD:=hH hd;clear h1 h2 hl hl' hs hd;go_enter Tryz.func161,Tryz.ntmps161;go_wp2_with (first|(go_at_call 153;go_must ((with_reducible refine(HOW.o _ Qac).mono ?_);rintro e w1 ⟨v1,u1,rfl,ho1,ho2,ho3,hx1⟩;obtain⟨a3,n3,c3,rfl⟩:=Qab ho1;obtain⟨a4,n4,c4,rfl⟩:=Qab ho2;simp only[World.size_alloc,Nat.add_assoc,Nat.reduceAdd] at ho1 ho2;have HO1:Hid (OSl RAt 3 129 (w.heap.size+2) (fun j=>w.heap.size+2≤j∧some j≠(Value.slice a4 n4 c4).ownBlock) w1 (.slice a3 n3 c3) s.1):=hH ho1;have HO2:Hid (OSl RMk 2 103 (w.heap.size+2) (fun j=>w.heap.size+2≤j∧some j≠(Value.slice a3 n3 c3).ownBlock) w1 (.slice a4 n4 c4) s.2):=hH ho2;have HO3:=hH ho3;have HX1:=hH hx1;have hs1:=hx1.size;(try simp at hs1);obtain⟨q0,q1⟩:=cC2 hx1 (w.heap.size+1) (.slice none 0 0) (.slice none 0 0);have qf0:=fL hx1 (w.heap.size+1) 0;have qf1:=fL hx1 (w.heap.size+1) 1;have HXW:=xY w hx1;clear ho1 ho2 ho3 hx1)))
 refine Qad (fun w2 ew2=> ?_);have hB2:w.heap.size+2≤w1.heap.size:=oM;have hl1:w.heap.size+1<w1.heap.size:=oM;obtain⟨r0,r1⟩:=rR2 ew2 (w.heap.size+1) (.slice none 0 0) (.slice none 0 0);have rf0:w2.frozen? ⟨w.heap.size+1,0,none⟩=false:=by rw[ew2];go_simp
 have rf1:w2.frozen? ⟨w.heap.size+1,1,none⟩=false:=by rw[ew2];go_simp
 have HW2:=hH (show Ext w w2 by rw[ew2];exact ext_alloc HXW.o _);have hs2:=zE ew2 w1.heap.size;obtain⟨Z,hZ⟩:∃Z:Nat→Prop,Z=fun j=>j<w.heap.size+2:=⟨_,rfl⟩
 have HZL:=hH (show∀j,j<w.heap.size+2→Z j by rw[hZ];exact fun j hj=>hj);have HZU:=hH (show∀j,Z j→j<w.heap.size+2 by rw[hZ];exact fun j hj=>hj);have HDR:=hH (show DoerIs Z (w.heap.size+2) w1.heap.size s w2 (.slice a3 n3 c3) (.slice a4 n4 c4) by
  rw[ew2];exact Q9k HO1.o HO2.o HO3.o (ext_alloc (ext_refl _) _) (Nat.le_refl _) hB2 gS gS (fun o=>by go_simp) HZU.o)
 clear ew2 hZ q0 q1 qf0 qf1 HO1 HO2 HO3 HX1 HXW HOW;go_loopw [15] (fun iv wr=>∃(k:Nat) (t:St),k≤l.length∧iv= .int .i64 k∧Hid (Qfc s (l.take k)=some t)∧Hid (Qpx Z (w.heap.size+2) w1.heap.size t wr)∧Hid (Kept Z w2 wr)) (fun iv _=>l.length-(intOf iv).toNat)
 case atStart=>exact⟨0,s,Nat.zero_le _,rfl,hH rfl,hH ⟨_,_,HDR.o⟩,hH Qkv⟩
 case round=>
  obtain⟨k,t,hk,rfl,HT,HDO,HK⟩:=hrel;have HX:=hH (HK.o.toExt HW2.o (fun j hj=>HZL.o j oM));have hsr:=HK.o.size;have hwr:w.heap.size+1<wr.heap.size:=oM;have hwn:¬w.heap.size+1=wr.heap.size:=oM;have x0:=(HK.o.cell (HZL.o (w.heap.size+1) oM) oM 0).trans r0;have x1:=(HK.o.cell (HZL.o (w.heap.size+1) oM) oM 1).trans r1;have xf0:=(HK.o.frz (HZL.o (w.heap.size+1) oM) oM 0).trans rf0;have xf1:=(HK.o.frz (HZL.o (w.heap.size+1) oM) oM 1).trans rf1;have HFT:=hH (Qko HFS.o (fun d hd=>HD.o d (List.mem_of_mem_take hd)) HT.o);obtain⟨v3,u3,hd3⟩:=HDO.o;have HD3:=hH hd3;clear hd3 r0 r1 rf0 rf1;by_cases hlt:k<l.length
  ·obtain⟨b,o,d,b1,m1,e1,b2,m2,e2,sx,rfl,hb,ek,hde,y0,y1,y2,y3,y4,y5,y6⟩:=Qfd (HL.o wr HX.o) hlt;have hcd:=HD.o d (List.mem_of_getElem? ek);have HON:=hH (fun(W:World) (hx:Ext wr W)=>Q92 (Qbm HD3.o hx) (gDe.ext hde hx) hcd (fun j hj=>HZL.o j oM) (fun j hj=>by have:=HZU.o j hj;have:=hx.size;omega) HFT.o.1.1 HFT.o.1.2.1 HFT.o.2.1 HFT.o.2.2);obtain⟨hn1,hn2⟩:=Qtj ek HT.o;have HN1:=hH hn1;have HN2:=hH hn2;have hbr:b<wr.heap.size:=hb;have hbn:¬b=wr.heap.size:=oM;clear ek hde hcd hn1 hn2;cases hm:Qcb (Qbp t d) with
   |true=>
    rw[hm] at HON;have HNN:=hH (HN1.o hm);clear hm HN1 HN2;go_wp2_with (first|(go_at_call 202;go_must ((with_reducible refine(HON.o _ Qac).mono ?_);rintro e w5 ⟨rfl,hd5,hk5⟩;have HD5:=hH hd5;have hs5:=hk5.size;(try simp at hs5);have z0:=(hk5.cell (HZL.o (w.heap.size+1) oM) ltA 0).trans (show _=some (.slice none 0 0) by first|(with_reducible assumption)|go_simp);have z1:=(hk5.cell (HZL.o (w.heap.size+1) oM) ltA 1).trans (show _=some (.slice none 0 0) by first|(with_reducible assumption)|go_simp);have zf0:=(hk5.frz (HZL.o (w.heap.size+1) oM) ltA 0).trans (show _=false by first|(with_reducible assumption)|go_simp);have zf1:=(hk5.frz (HZL.o (w.heap.size+1) oM) ltA 1).trans (show _=false by first|(with_reducible assumption)|go_simp);have HK5:=hH (Qa3 (Qa3 HK.o (Qbs Qac)) hk5);have HX5:=hH (HK5.o.toExt HW2.o (fun j hj=>HZL.o j oM));clear hd5 hk5)))
    refine bodyPost_ret (v:= .tuple #[.agg #[.slice none 0 0,.slice none 0 0],.bool false]) (by simp[results,Tryz.results161,go_sem,z0,z1]) rfl (by rw[HNN.o];exact⟨rfl,ext_set (ext_set HX5.o (by show w.heap.size≤w.heap.size+1;omega) _) (by show w.heap.size≤w.heap.size+1;omega) _⟩)
   |false=>
    rw[hm] at HON;have HNN:=hH (HN2.o hm);clear hm HN1 HN2;go_wp2_with (first|(go_at_call 202;go_must ((with_reducible refine(HON.o _ Qac).mono ?_);rintro e w5 ⟨rfl,hd5,hk5⟩;have HD5:=hH hd5;have hs5:=hk5.size;(try simp at hs5);have z0:=(hk5.cell (HZL.o (w.heap.size+1) oM) ltA 0).trans (show _=some (.slice none 0 0) by first|(with_reducible assumption)|go_simp);have z1:=(hk5.cell (HZL.o (w.heap.size+1) oM) ltA 1).trans (show _=some (.slice none 0 0) by first|(with_reducible assumption)|go_simp);have zf0:=(hk5.frz (HZL.o (w.heap.size+1) oM) ltA 0).trans (show _=false by first|(with_reducible assumption)|go_simp);have zf1:=(hk5.frz (HZL.o (w.heap.size+1) oM) ltA 1).trans (show _=false by first|(with_reducible assumption)|go_simp);have HK5:=hH (Qa3 (Qa3 HK.o (Qbs Qac)) hk5);have HX5:=hH (HK5.o.toExt HW2.o (fun j hj=>HZL.o j oM));clear hd5 hk5)))
    go_roundw
    case rel=>exact⟨k+1,_,oM,by go_num,HNN,HD5,HK5⟩
    case measure=>simp[intOf];omega
  ·obtain rfl:k=l.length:=oM;have HTT:=hH (show Qfc s l=some t by have:=HT.o;rwa [List.take_of_length_le (Nat.le_refl _)] at this);obtain⟨a5,n5,c5,rfl⟩:=Qab HD3.o.oa;obtain⟨a6,n6,c6,rfl⟩:=Qab HD3.o.og;have p0:=HD3.o.c0;have p1:=HD3.o.c1;have hne:¬w1.heap.size=w.heap.size+1:=oM;have hne':¬w.heap.size+1=w1.heap.size:=oM;clear HDO;go_wp2
   refine bodyPost_ret (v:= .tuple #[.agg #[.slice a5 n5 c5,.slice a6 n6 c6],.bool true]) (by simp[results,Tryz.results161,go_sem,x0,x1]) rfl (by
    rw[HTT.o];exact⟨_,_,rfl,Q62 HD3.o oM (Qae (Qae Qag (fun _ h=>by have h':w.heap.size+2≤w.heap.size+1:=h;omega) _) (fun _ h=>by have h':w.heap.size+2≤w.heap.size+1:=h;omega) _),ext_set (ext_set HX.o (by show w.heap.size≤w.heap.size+1;omega) _) (by show w.heap.size≤w.heap.size+1;omega) _⟩)
def Vcp (t:St) (er:Int) (w:World) (e:Ending) (w':World):Prop:=∃v u,e= .returned (.tuple #[.agg #[v,u],.int .i64 er])∧Qyh w.heap.size t w' v u∧Ext w w'
theorem Qo4 {B:Nat} {w:World}:Qyh B ([],[]) w (.slice none 0 0) (.slice none 0 0):=⟨Qbn,Qbn,fun j h=>by simp[Value.ownBlock] at h⟩
theorem Qzs {B B':Nat} {s:St} {w w':World} {v u:Value} (h:Qyh B s w v u) (hb:B'≤B) (hk:Keeps (fun j=>B≤j) w w'):Qyh B' s w' v u:=by
 obtain⟨h1,h2,h3⟩:=h;have r1:=Qak h1;have r2:=Qak h2;refine⟨Qc8 gAt (Qcx hb (Qa8 gAt h1 (hk.weaken (fun j _ hj=> ?_)))) (fun k hk _ _=>⟨oM,hk.2⟩),Qc8 gMk (Qcx hb (Qa8 gMk h2 (hk.weaken (fun j _ hj=> ?_)))) (fun k hk _ _=>⟨oM,hk.2⟩),h3⟩
 ·rcases hj with hj|hj
  ·exact hj.1
  ·exact(r1 j hj.symm).1
 ·rcases hj with hj|hj
  ·exact hj.1
  ·exact(r2 j hj.symm).1
theorem Zav {p:Prop} (h:p:=by
 clear he f1 f2 hend;go_wp2_with fail
 refine bodyPost_ret (v:= .tuple #[.agg #[.slice none 0 0,.slice none 0 0],.int .i64 er]) (by simp[results,Tryz.results203,go_sem,x0,x1]) rfl (by rw[HNN.o.1,HNN.o.2];exact⟨_,_,rfl,Qo4,(by repeat(first|(with_reducible exact HXW.o)|(with_reducible refine ext_alloc ?_ _)|(with_reducible refine ext_set ?_ (by first|(show w.heap.size≤w.heap.size+1;omega)|(show w.heap.size≤w5.heap.size;omega)) _)))⟩)):p:=h
theorem Q8r {F G:Nat→Prop} {w:World} {cs:List Value} {s:St} {x:Value} {l:List De} (h:RSt F w cs s) (hl:RSl RDe 7 G w x l):
  Calls Tryz.prog 203 #[.agg cs.toArray,x] w (Vcp (Qrn s l) (Qne s l) w):=by
 have HCH:=hH (fun(W:World) (hx:Ext w W)=>Qeg (gSt.ext h hx));have HRW:=hH (fun(W:World) (hx:Ext w W) (he:Qy2 s l=0)=>Qx6 (gSt.ext h hx) (hl.ext gDe hx) (Qrm he).1 (Qrm he).2.1);have HL:=hH (fun(W:World) (hx:Ext w W)=>hl.ext gDe hx);obtain⟨v,u,rfl,h1,h2⟩:=h;obtain⟨a0,n0,c0,rfl⟩:=h1.slice;obtain⟨a1,n1,c1,rfl⟩:=h2.slice;obtain⟨a2,n2,c2,rfl⟩:=hl.slice;obtain rfl:n2=l.length:=hl.len.1;have hll:l.length≤9223372036854775807:=by have:=hl.len;unfold maxLen at this;omega
 have HST:=hH (Qvg s l);generalize hes:Qax s=es at *;clear h1 h2 hl hes;go_enter Tryz.func203,Tryz.ntmps203;go_wp2_with (first|(go_at_call 182;go_must ((with_reducible refine(HCH.o _ Qac).mono ?_);rintro e w1 ⟨rfl,hx1⟩;have hs1:=hx1.size;(try simp at hs1);obtain⟨hlb0,hlb1⟩:=zL2 hx1 w.heap.size;obtain⟨q0,q1⟩:=cC2 hx1 (w.heap.size+1) (.slice none 0 0) (.slice none 0 0);obtain⟨q2,q3⟩:=cC2 hx1 (w.heap.size) (.slice a0 n0 c0) (.slice a1 n1 c1);have qf0:=fL hx1 (w.heap.size+1) 0;have qf1:=fL hx1 (w.heap.size+1) 1;have HXW:=xY w hx1;clear hx1)))
 refine Qad (fun w2 ew2=> ?_);obtain⟨r0,r1⟩:=rR2 ew2 (w.heap.size+1) (.slice none 0 0) (.slice none 0 0);have rf0:w2.frozen? ⟨w.heap.size+1,0,none⟩=false:=by rw[ew2];go_simp
 have rf1:w2.frozen? ⟨w.heap.size+1,1,none⟩=false:=by rw[ew2];go_simp
 obtain⟨s0,s1⟩:=rR2 ew2 w.heap.size (.slice a0 n0 c0) (.slice a1 n1 c1);have hs2:w.heap.size+2≤w2.heap.size:=by rw[ew2];first|omega|(simp;omega)
 have HW2:=hH (show Ext w w2 by rw[ew2];exact HXW.o);clear ew2 q0 q1 q2 q3 qf0 qf1 HXW HCH;go_loopw [6,7] (fun ev iv wr=>∃(k:Nat) (er:Int),k≤l.length∧iv= .int .i64 k∧ev= .int .i64 er∧Hid (Q0o s l k er)∧Hid (Ext w2 wr)) (fun ev iv _=>l.length-(intOf iv).toNat)
 case atStart=>exact⟨0,es,Nat.zero_le _,rfl,rfl,HST,hH (ext_refl _)⟩
 case round=>
  obtain⟨k,er,hk,rfl,rfl,HA,HX⟩:=hrel;have hsr:=HX.o.size;have hb0:w.heap.size<wr.heap.size:=oM;have hb1:w.heap.size+1<wr.heap.size:=oM;have x0:=(HX.o.cells _ _ (show w.heap.size+1<w2.heap.size by omega)).trans r0;have x1:=(HX.o.cells _ _ (show w.heap.size+1<w2.heap.size by omega)).trans r1;have xf0:=(HX.o.frz _ _ (show w.heap.size+1<w2.heap.size by omega)).trans rf0;have xf1:=(HX.o.frz _ _ (show w.heap.size+1<w2.heap.size by omega)).trans rf1;have t0:=(HX.o.cells _ _ (show w.heap.size<w2.heap.size by omega)).trans s0;have t1:=(HX.o.cells _ _ (show w.heap.size<w2.heap.size by omega)).trans s1;have HXW:=hH (ext_trans HW2.o HX.o);clear r0 r1 rf0 rf1 s0 s1;have hgo:(k<l.length∧er=0)∨(l.length≤k∨er≠0):=oM;rcases hgo with⟨hlt,rfl⟩|hend
  ·obtain⟨b,o,d,b1,m1,e1,b2,m2,e2,sx,rfl,hb,ek,hde,y0,y1,y2,y3,y4,y5,y6⟩:=Qfd (HL.o wr HXW.o) hlt;have HDE:=hH (fun(W:World) (hx:Ext wr W)=>Qjk (gDe.ext hde hx));have HN:=hH (Qyj HA.o ek);have g1:decide ((k:Int)<(l.length:Int))=true:=decide_eq_true oM;have g2:decide (k<l.length)=true:=decide_eq_true oM;generalize Qat d=ed at *;clear ek hde HA;go_wp2_with (first|(go_at_call 143;go_must ((with_reducible refine(HDE.o _ Qac).mono ?_);rintro e w5 ⟨rfl,hx5⟩;have HX5:=xY wr hx5;clear hx5)))
   go_roundw
   case rel=>exact⟨k+1,ed,oM,by go_num,rfl,HN,hH (ext_trans HX.o HX5.o)⟩
   case measure=>simp[intOf];omega
  ·have he:=Q0z HA.o hend;have HE:=hH he;by_cases h0:er=0
   ·subst h0;have hkl:l.length≤k:=oM;have g1:decide ((k:Int)<(l.length:Int))=false:=decide_eq_false oM;have g2:decide (k<l.length)=false:=decide_eq_false oM;have HR:=hH (fun(W:World) (hx:Ext wr W)=>HRW.o W (ext_trans HXW.o hx) he);obtain⟨_,_,hN,hS⟩:=Qrm he;clear hend he;cases hdo:Qfc s l with
    |none=>
     rw[hdo] at HR;have HNN:=hH (hN hdo);clear hN hS hdo;go_wp2_with (first|(go_at_call 161;go_must ((with_reducible refine(HR.o _ Qac).mono ?_);rintro e w5 ⟨rfl,hx5⟩;have hs5:=hx5.size;(try simp at hs5);have hl5:=zL hx5 (w.heap.size+1);have hl5n:¬w.heap.size+1=w5.heap.size:=oM;have hl5n':¬w5.heap.size=w.heap.size+1:=oM;obtain⟨z0,z1⟩:=cC2 hx5 (w.heap.size+1) (.slice none 0 0) (.slice none 0 0);have zf0:=fL hx5 (w.heap.size+1) 0;have zf1:=fL hx5 (w.heap.size+1) 1;have HX5:=xX HXW hx5;clear hx5)))
     refine bodyPost_ret (v:= .tuple #[.agg #[.slice none 0 0,.slice none 0 0],.int .i64 2]) (by simp[results,Tryz.results203,go_sem,z0,z1,hl5]) rfl (by rw[HNN.o.1,HNN.o.2];exact⟨_,_,rfl,Qo4,(by repeat(first|(with_reducible exact HX5.o)|(with_reducible refine ext_alloc ?_ _)|(with_reducible refine ext_set ?_ (by first|(show w.heap.size≤w.heap.size+1;omega)|(show w.heap.size≤w5.heap.size;omega)) _)))⟩)
    |some t=>
     rw[hdo] at HR;have HNN:=hH (hS t hdo);clear hN hS hdo;go_wp2_with (first|(go_at_call 161;go_must ((with_reducible refine(HR.o _ Qac).mono ?_);rintro e w5 ⟨v5,u5,rfl,ho5,hx5⟩;have hs5:=hx5.size;(try simp at hs5);have hl5:=zL hx5 (w.heap.size+1);have hl5n:¬w.heap.size+1=w5.heap.size:=oM;have hl5n':¬w5.heap.size=w.heap.size+1:=oM;obtain⟨z0,z1⟩:=cC2 hx5 (w.heap.size+1) (.slice none 0 0) (.slice none 0 0);have zf0:=fL hx5 (w.heap.size+1) 0;have zf1:=fL hx5 (w.heap.size+1) 1;have HX5:=xX HXW hx5;obtain⟨a5,n5,c5,rfl⟩:=Qab ho5.1;obtain⟨a6,n6,c6,rfl⟩:=Qab ho5.2.1;have HO5:=hH ho5;have hwr5:wr.heap.size≤w5.heap.size:=oM;clear ho5;clear hx5)))
     refine bodyPost_ret (v:= .tuple #[.agg #[.slice a5 n5 c5,.slice a6 n6 c6],.int .i64 0]) (by simp[results,Tryz.results203,go_sem,z0,z1,hl5]) rfl (by rw[HNN.o.1,HNN.o.2];exact⟨_,_,rfl,Qzs HO5.o oM (by repeat(first|(with_reducible exact Qag)|(with_reducible refine Qa1 ?_ _)|(with_reducible refine Qae ?_ (fun hq h=>by first|(have h':wr.heap.size≤w.heap.size+1:=h;omega)|(have h':w5.heap.size<w5.heap.size:=hq;omega)) _))),(by repeat(first|(with_reducible exact HX5.o)|(with_reducible refine ext_alloc ?_ _)|(with_reducible refine ext_set ?_ (by first|(show w.heap.size≤w.heap.size+1;omega)|(show w.heap.size≤w5.heap.size;omega)) _)))⟩)
   ·have g3:(er==0)=false:=by simpa using h0
    have g4:(er !=0)=true:=by simpa using h0
    obtain⟨f1,f2⟩:=Q45 (s:=s) (l:=l) (by rw[he];exact h0);have HNN:=hH (And.intro (f1.trans he) f2);by_cases hlt:k<l.length
    ·have g1:decide ((k:Int)<(l.length:Int))=true:=decide_eq_true oM;have g2:decide (k<l.length)=true:=decide_eq_true oM;exact Zav
    ·have g1:decide ((k:Int)<(l.length:Int))=false:=decide_eq_false oM;have g2:decide (k<l.length)=false:=decide_eq_false oM;exact Zav
theorem Q68 {w:World} {b o:Nat} {x0 x1 x2 x3 x4 x5 x6:Value} (h0:w.cell? ⟨b,o,none⟩=some x0) (h1:w.cell? ⟨b,o+1,none⟩=some x1) (h2:w.cell? ⟨b,o+2,none⟩=some x2) (h3:w.cell? ⟨b,o+3,none⟩=some x3)
  (h4:w.cell? ⟨b,o+4,none⟩=some x4) (h5:w.cell? ⟨b,o+5,none⟩=some x5) (h6:w.cell? ⟨b,o+6,none⟩=some x6):w.rangeAt b o [x0,x1,x2,x3,x4,x5,x6]:=by
 intro j v hv
 match j,hv with
 |0,hv=>exact(by simpa using hv:x0=v)▸h0
 |1,hv=>exact(by simpa using hv:x1=v)▸h1
 |2,hv=>exact(by simpa using hv:x2=v)▸h2
 |3,hv=>exact(by simpa using hv:x3=v)▸h3
 |4,hv=>exact(by simpa using hv:x4=v)▸h4
 |5,hv=>exact(by simpa using hv:x5=v)▸h5
 |6,hv=>exact(by simpa using hv:x6=v)▸h6
theorem Q8a {F:Nat→Prop} {W:World} {r:Nat} {c0 c1 c2 c3 c4 c5 c6:Value} {d:De} (h:RDe F W [c0,c1,c2,c3,c4,c5,c6] d) (h0:W.cell? ⟨r,0,none⟩=some c0) (h1:W.cell? ⟨r,1,none⟩=some c1) (h2:W.cell? ⟨r,2,none⟩=some c2) (h3:W.cell? ⟨r,3,none⟩=some c3)
  (h4:W.cell? ⟨r,4,none⟩=some c4) (h5:W.cell? ⟨r,5,none⟩=some c5) (h6:W.cell? ⟨r,6,none⟩=some c6):
  RSl RDe 7 (fun j=>F j∨j=r) W (.slice (some ⟨r,0,none⟩) 1 1) [d]:=
 Qbe (o:=0) (xs:=[c0,c1,c2,c3,c4,c5,c6]) (Q68 h0 h1 h2 h3 h4 h5 h6) (Qbg rfl (gDe.more (fun _ h _=>Or.inl h) h)) (Or.inr rfl) (World.block_lt_of_cell? _ _ h0) (Nat.le_refl _) mO
theorem Qr6:(Tryz.prog.info? 136).map (fun i=>(i.zero,i.size,i.bytes))=some (some (.agg #[.int .i64 0,.slice none 0 0,.int .i64 0,.string ⟨#[]⟩,.slice none 0 0,.int .i64 0,.int .i64 0]),7,96):=kR
theorem Qwg:∀F w cs (y:De),RDe F w cs y→∀u∈cs,u.oneCell'=true:=by
 rintro F w cs y ⟨v,s,u,rfl,_,h1,_,h3,h4,_,_⟩ x hx;obtain⟨a1,n1,c1,rfl⟩:=h1.slice;obtain⟨a2,n2,c2,rfl⟩:=h4.slice;obtain⟨t,rfl,_⟩:=Qby h3;simp at hx;rcases hx with rfl|rfl|rfl|rfl|rfl|rfl|rfl<;>rfl
theorem Q1v {a b:Nat} (h:a≤300) (hb:b≤1):a+b≤maxLen:=Nat.le_trans (by omega:a+b≤301) (by unfold maxLen;decide)
theorem Q1u {a b:Nat} (h:a≤300) (hb:b≤1):(a+b) * 96≤140737488355328:=oM
theorem Vac {α:Type} {R:Rd α} {sz:Nat} {F:Nat→Prop} {w:World} {l:List α} {a:Option Addr} {n c:Nat} (h:RSl R sz F w (.slice a n c) l) {i j:Nat} (hij:i≤j) (hj:j≤n):
  RSl R sz F w (.slice (if c=i then a else a.map (·.add (i * sz))) (j-i) (c-i)) ((l.drop i).take (j-i)):=by
 obtain⟨a',cap,e,h1,h2,h3⟩:=h;injection e with e1 e2 e3
 subst e1;subst e2;subst e3;refine⟨_,_,by rw[List.length_take,List.length_drop,Nat.min_eq_left oM],by rw[List.length_take,List.length_drop];omega,oM,fun hne=> ?_⟩;have hlt:i<j:=by
  rcases Nat.lt_or_ge i j with h|h
  ·exact h
  ·exact absurd (by rw[show j-i=0 by omega];rfl) hne
 rw[if_neg oM];obtain⟨b',o',e',hF,hl,hx⟩:=h3 (fun e=>by subst e;simp at hj;omega);subst e';refine⟨b',o'+i * sz,by simp[Addr.add],hF,hl,fun t x ht=> ?_⟩;rw[List.getElem?_take] at ht;split at ht
 ·rw[List.getElem?_drop] at ht;obtain⟨cs,c1,c2,c3⟩:=hx (i+t) x ht;exact⟨cs,c1,by rw[Nat.add_mul,←Nat.add_assoc] at c2;exact c2,c3⟩
 ·cases ht
def Qd1 (r:Rn):De:=⟨2,(([],0),[]),r.1,(r.2.length:Int)⟩
def Qdw (r:Rn):De:=⟨1,r,([],0),0⟩
def Qs2 (s:St) (a n:Int):Int:=if Qax s≠0 then Qax s else if Qb8 a n s.1.length=false then 3 else 0
def Qry (s:St) (a n:Nat):List At:=(s.1.drop a).take n
def Qnh (s:St) (a n:Int):List De:=if Qs2 s a n=0 then(Qct (Qry s a.toNat n.toNat)).map Qd1 else []
theorem Qgx {a n:Int} {k:Nat} (h:Qb8 a n k=true):∃i j:Nat,a=(i:Int)∧n=(j:Int)∧i+j≤k:=by
 unfold Qb8 at h;simp only[Bool.and_eq_true,decide_eq_true_eq] at h;exact⟨a.toNat,n.toNat,oM,oM,oM⟩
theorem Qpk:∀{l:List At} (i:Nat),Qa9 l→Qa9 (l.drop i)
 |_,0,h=>h
 | [],_+1,h=>by simpa using h
 |_::r,i+1,h=>Qpk i (Qb3 h)
theorem Qwt {l:List At} (i:Nat) (h:Qa9 l):Qa9 (l.take i):=by
 refine Qhy fun j a b ha hb=> ?_
 rw[List.getElem?_take] at ha hb;split at ha
 ·split at hb
  ·exact Qdx h (j+1) a b j oM ha hb
  ·cases hb
 ·cases ha
theorem Ql5 {s:St} (h:Qax s=0) (a n:Nat):Qb0 (Qry s a n)=0:=by
 have hf:=checkS_fit.1 h;have hl:(Qry s a n).length≤300:=by unfold Qry;rw[List.length_take,List.length_drop];have:=hf.2.1;omega
 have hr:Qec (Qry s a n):=⟨Qwt _ (Qpk _ hf.1.1.1),fun x hx=>hf.1.1.2 x (List.mem_of_mem_drop (List.mem_of_mem_take hx))⟩;rw[Qsq hr,if_neg oM]
theorem Qg7 (l:List At):(Qct l).length≤l.length:=by
 have:=Qiu l l.length
 rwa [List.take_length] at this
def Q7v (l:List De) (er:Int) (w:World) (e:Ending) (w':World):Prop:=∃v,e= .returned (.tuple #[v,.int .i64 er])∧RSl RDe 7 (fun j=>w.heap.size≤j) w' v l∧Ext w w'
theorem Q39 {F:Nat→Prop} {w:World} {v:Value} {p:List Stp} {c:Int} {t:Tx} (h:RSl Qdt 2 F w v p) (hc:I64 c) (ht:t.length≤60):
  RDe F w [.int .i64 2,.slice none 0 0,.int .i64 0,.string ⟨#[]⟩,v,.int .i64 c,.int .i64 (t.length:Int)] (Qd1 ((p,c),t)):=
 ⟨_,_,_,rfl,Qal (by simp[Qd1]) (by simp[Qd1]),RSl.nil_ (Nat.zero_le _),Qal (by simp[Qd1]) (by simp[Qd1]),⟨rfl,by simp[Qd1]⟩,h,hc,Qal (by simp[Qd1]) (by simp only[Qd1];omega)⟩
theorem Qxp {α β:Type} {l:List α} {k:Nat} {a:α} {f:α→β} (h:l[k]?=some a):(l.take (k+1)).map f=(l.take k).map f++[f a]:=by
 obtain⟨h1,h2⟩:=List.getElem?_eq_some_iff.1 h;rw[List.take_succ_eq_append_getElem h1,h2,List.map_append];rfl
end Go.Proofs.YtgnccjojfebkeaaGreat
namespace Go.Proofs.YtgnccjojfebkeaaGreat
open Go Cp
theorem Qvn {r:Rn} (h:Qbd r=0):Qat (Qd1 r)=0:=by
 obtain⟨h1,h2,h3,_,h5⟩:=Qb1 h;have hl:r.2.length≠0:=fun e=>h2 (List.eq_nil_of_length_eq_zero e)
 rw[Qd9 (d:=Qd1 r) (by simp[Qd1]) rfl h1 rfl rfl (by simp only[Qd1];omega)];exact h5
theorem Qpm {s:St} {a n:Int} (h:Qs2 s a n=0):∀d∈Qnh s a n,Qat d=0:=by
 have hs:Qax s=0:=by
  unfold Qs2 at h;by_cases e:Qax s=0
  ·exact e
  ·rw[if_pos e] at h;exact absurd h e
 unfold Qnh;rw[if_pos h];intro d hd;obtain⟨r,hr,rfl⟩:=List.mem_map.1 hd;exact Qvn ((Qiv (Ql5 hs _ _)).2.1 r hr)
theorem Qqi {s:St} {a n:Int} (h:Qs2 s a n=0):Qpy s∧∃i j:Nat,a=(i:Int)∧n=(j:Int)∧i+j≤s.1.length:=by
 unfold Qs2 at h;by_cases e:Qax s=0
 ·rw[if_neg (by simpa using e)] at h;by_cases g:Qb8 a n s.1.length=false
  ·rw[if_pos g] at h;cases h
  ·exact⟨checkS_fit.1 e,Qgx (by simpa using g)⟩
 ·rw[if_pos e] at h;exact absurd h e
end Go.Proofs.YtgnccjojfebkeaaGreat
