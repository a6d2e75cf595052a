/- A deed, a note, and what must be in any case of what was seen. -/
import Derived.Test.YtgnccjojfebkeaaGreatQa70fadfe36
import Derived.Test.YtgnccjojfebkeaaGreatQ463d8804a1
import Derived.Deep.RegionLaw
import Derived.Deep.DeepCutAuto
set_option linter.unusedVariables false
set_option linter.unusedSimpArgs false
set_option maxRecDepth 100000
set_option maxHeartbeats 4000000
namespace Go.Proofs.YtgnccjojfebkeaaGreat
open Go Go.RowKit Go.BigFrame Cp
theorem Qay {w:World} {b o:Nat} {x:Value} {xs:List Value} (h:w.cell? ⟨b,o,none⟩=some x) (k:w.rangeAt b (o+1) xs):w.rangeAt b o (x::xs):=by
 intro j v hv;cases j with
 |zero=>
  have:x=v:=by simpa using hv
  subst this;exact h
 |succ j=>
  have:=k j v (by simpa using hv)
  rwa [show o+1+j=o+(j+1) by omega] at this
theorem Qj7 {w:World} {b o:Nat}:w.rangeAt b o []:=by intro j v hv;simp at hv
theorem Qlh {α:Type} {R:Rd α} {sz:Nat} {F:Nat→Prop} {w:World} {b c:Nat} {cs:List Value} {x:α} (hc:cs.length=sz) (hr:w.rangeAt b 0 cs) (hx:R F w cs x) (hF:F b) (hb:b<w.heap.size) (h1:1≤c) (h2:c≤maxLen):
  RSl R sz F w (.slice (some ⟨b,0,none⟩) 1 c) [x]:=by
 refine⟨_,c,rfl,h1,h2,fun _=>⟨b,0,rfl,hF,hb,fun i y hi=> ?_⟩⟩;cases i with
 |zero=>
  have:x=y:=by simpa using hi
  subst this;exact⟨cs,hc,by simpa using hr,hx⟩
 |succ i=>simp at hi
theorem Qvz {F:Nat→Prop} {W:World} {r c:Nat} {x0 x1 x2 x3 x4:Int} (z0:W.cell? ⟨r,0,none⟩=some (.int .i64 x0)) (z1:W.cell? ⟨r,1,none⟩=some (.int .i64 x1)) (z2:W.cell? ⟨r,2,none⟩=some (.int .i64 x2))
  (z3:W.cell? ⟨r,3,none⟩=some (.int .i64 x3)) (z4:W.cell? ⟨r,4,none⟩=some (.int .i64 x4)) (hF:F r) (hr:r<W.heap.size) (hc:5≤c) (hc2:c≤maxLen) (hi:∀x∈[x0,x1,x2,x3,x4],I64 x):
  RSl Qe1 1 F W (.slice (some ⟨r,0,none⟩) 5 c) [x0,x1,x2,x3,x4]:=by
 refine⟨_,c,rfl,hc,hc2,fun _=>⟨r,0,rfl,hF,hr,fun i x hx=> ?_⟩⟩;have hm:=hi x (List.mem_of_getElem? hx);rcases i with _|_|_|_|_|i
 ·obtain rfl:x0=x:=by simpa using hx
  exact⟨[.int .i64 x0],rfl,Qez z0,rfl,hm⟩
 ·obtain rfl:x1=x:=by simpa using hx
  exact⟨[.int .i64 x1],rfl,Qez z1,rfl,hm⟩
 ·obtain rfl:x2=x:=by simpa using hx
  exact⟨[.int .i64 x2],rfl,Qez z2,rfl,hm⟩
 ·obtain rfl:x3=x:=by simpa using hx
  exact⟨[.int .i64 x3],rfl,Qez z3,rfl,hm⟩
 ·obtain rfl:x4=x:=by simpa using hx
  exact⟨[.int .i64 x4],rfl,Qez z4,rfl,hm⟩
 ·simp at hx
def Vb6 (t:Tx):De:=⟨1,(([(3,0)],1),t),([],0),0⟩
def Q7y (s:ByteArray) (w:World) (e:Ending) (w':World):Prop:=∃a c,e= .returned (.agg #[.int .i64 1,.slice a 1 c,.int .i64 1,.string s,.slice none 0 0,.int .i64 0,.int .i64 0])∧
 RDe (fun k=>w.heap.size≤k) w' [.int .i64 1,.slice a 1 c,.int .i64 1,.string s,.slice none 0 0,.int .i64 0,.int .i64 0] (Vb6 s.data.toList)∧Ext w w'
theorem Qev {T G:Prop} (h:T) (k:T→G):G:=k h
theorem Q64 (s:ByteArray) (hs:s.size≤140737488351232) (w:World):Calls Tryz.prog 138 #[.string s] w (Q7y s w):=by
 go_enter Tryz.func138,Tryz.ntmps138;go_wp2_with (go_at_call 139;((with_reducible refine(Q04 3 0 1 (Qal sI sI) (Qal sI sI) (Qal sI sI) _).mono ?_);rintro e' w1 ⟨cs1,rfl,hm1,hx1⟩;obtain⟨v1,rfl,hv1,hi1⟩:=hm1;obtain⟨a1,n1,c1,rfl⟩:=hv1.slice;obtain rfl:n1=1:=hv1.len.1;have HV1:=hH hv1;clear hv1 hi1;have hz1:=hx1.size;(try simp at hz1);have hb1:=zL hx1 w.heap.size;obtain⟨r0,r1,r2,r3,r4,r5,r6⟩:=cC7 hx1 (w.heap.size) (.int .i64 0) (.slice none 0 0) (.int .i64 0) (.string ⟨#[]⟩) (.slice none 0 0) (.int .i64 0) (.int .i64 0);have rf0:=fL hx1 (w.heap.size) (0);have rf1:=fL hx1 (w.heap.size) (1);have rf2:=fL hx1 (w.heap.size) (2);have rf3:=fL hx1 (w.heap.size) (3);have rf4:=fL hx1 (w.heap.size) (4);have rf5:=fL hx1 (w.heap.size) (5);have rf6:=fL hx1 (w.heap.size) (6)))
 refine bodyPost_end (v:= .agg #[.int .i64 1,.slice a1 1 c1,.int .i64 1,.string s,.slice none 0 0,.int .i64 0,.int .i64 0]) (by simp[results,Tryz.results138,go_sem,r0,r1,r2,r3,r4,r5,r6,rf0,rf1,rf2,rf3,rf4,rf5,rf6,hb1]) rfl ⟨a1,c1,rfl,Vb9 (k:=1) (c:=1) (c2:=0) (m:=0) (p:=[(3,0)]) (p2:=[]) (t:=s.data.toList) (Qal sI sI) (RSl.more Qap (fun k hk _=>(show w.heap.size≤k by first|omega|(simp at hk;omega))) (HV1.o.keep Qap (by repeat(first|(with_reducible exact Qag)|(with_reducible refine Qbh ?_)|(with_reducible refine Qa1 ?_ _)|(with_reducible refine Qae ?_ ltA _))))) (Qal sI sI) ⟨by congr,by simpa using hs⟩ (RSl.nil_ (Nat.zero_le _)) (Qal sI sI) (Qal sI sI),Qac⟩
def noteN:No:=⟨0,1,[0,0,0,0,0],[Vb6 [104,105]]⟩
end Go.Proofs.YtgnccjojfebkeaaGreat
