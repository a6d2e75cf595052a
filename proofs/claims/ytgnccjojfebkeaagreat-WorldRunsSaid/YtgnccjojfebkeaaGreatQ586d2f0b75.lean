/- The atoms of a run, one by one: the iterator. -/
import Derived.RangeFuncNested
import Derived.RangeFuncBound
import Derived.RangeFuncCalls
import Derived.RangeFuncLeaves
import Derived.Shelf.Abstract
import Derived.Shelf.RegionOpen
import Derived.WalkKit
import Derived.OwnWalkIn
import Derived.TacticsInMore
import Derived.LoopNIn
import Derived.LoopIn
import Derived.Test.YtgnccjojfebkeaaGreatQfaa1586643
import Derived.Test.YtgnccjojfebkeaaGreatQed8dd0ae12
set_option linter.unusedVariables false
set_option linter.unusedSimpArgs false
set_option maxRecDepth 100000
set_option maxHeartbeats 4000000
namespace Go.Proofs.YtgnccjojfebkeaaGreat
open Go Go.RowKit Go.BigFrame Cp
attribute [local go_sem] Oper.semAt_some
structure Yd where
 a:Option Addr
 n:Nat
 c:Nat
 at_:At
def Vc8 (y:Yd):Array Value:=#[.agg #[.slice y.a y.n y.c,.int .i64 y.at_.1.2,.int .u8 (y.at_.2.toNat:Int)]]
def RpY (f:Nat→At) (B:Nat) (W:World) (k:Nat) (y:Yd):Prop:=y.at_=f k∧RSl Qdt 2 (fun j=>B≤j) W (.slice y.a y.n y.c) y.at_.1.1∧I64 y.at_.1.2
theorem Q5w {w:World} (a:Option Addr) (n c:Nat) (k:Int) (s:ByteArray):
  Calls Tryz.prog 246 #[.agg #[.slice a n c,.int .i64 k,.string s]] w fun e w'=>e= .returned (.func (.func 255) #[] #[.pointer (some ⟨w.heap.size,0,none⟩)])∧w'=w.alloc (.cells #[.slice a n c,.int .i64 k,.string s] 134):=by
 go_enter Tryz.func246,Tryz.ntmps246;go_wp2
 go_ret;exact⟨rfl,rfl⟩
theorem Q16 {F:Nat→Prop} {n:Nat} (hn:3≤n) {w:World} {a1:Option Addr} {n1 c1 Bn:Nat} {Fk:Nat→Prop} {l:List Stp} {c:Int} {s:ByteArray} (hB:Fk Bn) (hBw:Bn<w.heap.size)
  (hl:RSl Qdt 2 F w (.slice a1 n1 c1) l) (hF:∀j,F j→Fk j) (hi:I64 c) (hr:Qbd ((l,c),s.data.toList)=0)
  (z0:w.cell? ⟨Bn,0,none⟩=some (.slice a1 n1 c1)) (z1:w.cell? ⟨Bn,1,none⟩=some (.int .i64 c)) (z2:w.cell? ⟨Bn,2,none⟩=some (.string s)):
  Vds Fence.wide n Tryz.prog 255 #[.pointer (some ⟨Bn,0,none⟩)] Vc8 (RpY fun i=>(Qar (l,c) (i:Int),s.data.toList.getD i 0)) s.size Fk w:=by
 intro ll J W hW hJe hY h0;obtain⟨hc1,hc2,hc3,_,_⟩:=Qb1 hr;simp only at hc1 hc2 hc3;have hs60:s.size≤60:=by simpa using hc3
 have HAF:=hH (fun(k:Nat) (hk:k<s.size) (V:World) (hx:Keeps Fk w V)=>Qh7 (k:=(k:Int)) (Qam (hl.keep Qap (hx.weaken (fun j _ hj=>hF j hj))) hi) (Qcn hc1) (Qew hc1) (Qc6 hc1) (Qbu hc1) ⟨oM,oM⟩);have HIC:=hH (Qbu hc1);clear hr hc1 hc2 hc3;have HY:=hH hY;have HJ:=hH hJe;have HW:=hH (show Keeps Fk w W from .of_below hW);clear hY hJe;refine callsIn_of_wp Tryz.func255 rfl trivial ?_ rfl;simp only[Tryz.ntmps255,List.size_toArray,List.length_cons,List.length_nil,Nat.reduceAdd,Nat.reduceSub,Array.replicate_succ,Array.replicate_zero,List.push_toArray,List.append_toArray,List.nil_append,List.cons_append];have y2:=(World.cell?_of_block (a:=⟨Bn,2,none⟩) (HW.o.block Bn hB hBw)).trans z2
 gi_wp2
 gi_loopw [7] (fun i wr=>∃pre:List Yd,pre.length≤s.size∧i= .int .i64 (pre.length:Nat)∧J pre wr∧Keeps Fk w wr) (fun i _=>s.size-(intOf i).toNat)
 case atStart=>exact⟨[],Nat.zero_le _,rfl,h0,HW.o⟩
 case round=>
  obtain⟨pre,hk,rfl,hJs,hb⟩:=hrel;have x0:=(World.cell?_of_block (a:=⟨Bn,0,none⟩) (hb.block Bn hB hBw)).trans z0;have x1:=(World.cell?_of_block (a:=⟨Bn,1,none⟩) (hb.block Bn hB hBw)).trans z1;have x2:=(World.cell?_of_block (a:=⟨Bn,2,none⟩) (hb.block Bn hB hBw)).trans z2;have hbs:=hb.size;by_cases hlt:pre.length<s.size
  ·have hBr:Bn<wr.heap.size:=oM;have hmx:Tryz.prog.follows .mixedOrders=true:=fol;have h1n:1≤n:=oM
   gi_wp2
   gi_region_with_o (first|(refine⟨trivial,?_⟩;refine(callsIn_wide.2 (HAF.o pre.length hlt _ (by first|exact hb|exact Qbh hb))).mono ?_;rintro e w2 ⟨cs2,rfl,hm2,hx2⟩;have HM2:=hH (Qem hm2);obtain⟨v2,rfl,hv2,hi2⟩:=hm2;obtain⟨a3,n3,c3,rfl⟩:=Qab hv2;have q0:=(hx2.cells Bn 0 (by simpa using hBr)).trans (show _=some (.slice a1 n1 c1) by go_simp);have q1:=(hx2.cells Bn 1 (by simpa using hBr)).trans (show _=some (.int .i64 c) by go_simp);have q2:=(hx2.cells Bn 2 (by simpa using hBr)).trans (show _=some (.string s) by go_simp);have hxx:Ext wr w2:=ext_trans (by first|exact ext_refl _|exact ext_drew (ext_refl _)) hx2;obtain⟨fn,tmps,asg,bdy,hy,hR⟩:=HY.o pre ⟨a3,n3,c3,Qar (l,c) (pre.length:Int),s[pre.length]⟩ wr w2 hJs hxx ⟨by show(_,_)=(_,_);rw[Qn3 hlt],RSl.more Qap (fun j hj _=>(show wr.heap.size≤j by simpa using hj)) (Qjb HM2.o),hi2⟩ hlt;dsimp only[Vc8] at hy;clear hv2)|(refine hR.mono ?_;rintro e W3 ⟨rfl,hJ3,hk3⟩))
   all_goals gi_wp2
   all_goals go_roundw
   all_goals first
    |exact⟨pre++[⟨a3,n3,c3,Qar (l,c) (pre.length:Int),s[pre.length]⟩],sP,sI,hJ3,hb.trans ((Keeps.of_below hxx).trans hk3)⟩
    |(simp[intOf];omega)
  ·gi_wp2
   go_end0
   exact⟨⟨_,rfl⟩,pre,oM,hJs⟩
end Go.Proofs.YtgnccjojfebkeaaGreat
