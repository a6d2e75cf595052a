/- A note got, by the document: plain; the desk in its box. -/
import Derived.Test.YtgnccjojfebkeaaGreatQ67e18446e6
import Derived.Test.YtgnccjojfebkeaaGreatQa50ddd2d9a
import Derived.Test.YtgnccjojfebkeaaGreatQd9fe7e2782
import Derived.Test.YtgnccjojfebkeaaGreatQe1689ae885
import Derived.Test.YtgnccjojfebkeaaGreatQb12723dfd3
set_option linter.unusedVariables false
set_option linter.unusedSimpArgs false
set_option maxRecDepth 100000
namespace Go.Proofs.YtgnccjojfebkeaaGreat
open Go Go.RowKit Go.BigFrame Cp
theorem Vej:∀{A B:List No} {n:No},(∀x∈A,Qdz x n= -1)→Qu9 (A++B) n=A++Qu9 B n
 | [],_,_,_=>rfl
 |x::A,B,n,h=>by
  show(if Qdz x n= -1 then x::Qu9 (A++B) n else n::x::(A++B))=_
  rw[if_pos (h x (List.mem_cons_self ..)),Vej (fun y hy=>h y (List.mem_cons_of_mem _ hy))];rfl
theorem Vex:∀{A B:List No} {n:No},(∃y∈A,¬Qdz y n= -1)→Qu9 (A++B) n=Qu9 A n++B
 | [],_,_,h=>by obtain⟨y,h,_⟩:=h;cases h
 |x::A,B,n,h=>by
  show(if Qdz x n= -1 then x::Qu9 (A++B) n else n::x::(A++B))=(if Qdz x n= -1 then x::Qu9 A n else n::x::A)++B
  by_cases hx:Qdz x n= -1
  ·rw[if_pos hx,if_pos hx];obtain⟨y,hy,h2⟩:=h;rcases List.mem_cons.1 hy with rfl|hy
   ·exact absurd hx h2
   ·rw[Vex ⟨y,hy,h2⟩];rfl
  ·rw[if_neg hx,if_neg hx];rfl
def Vez (l:List No) (n:No) (k:Nat) (out:List No) (put:Bool):Prop:=
 out.length≤k+1∧(∀x∈l.take k,¬Qdz x n=0)∧(put=false→out=l.take k∧∀x∈l.take k,Qdz x n= -1)∧(put=true→out=Qu9 (l.take k) n∧∃y∈l.take k,¬Qdz y n= -1)
theorem Vem (l:List No) (n:No):Vez l n 0 [] false:=⟨sI,sI,fun _=>⟨rfl,sI⟩,fun h=>(by cases h)⟩
section
variable {l out:List No} {n x:No} {k:Nat}
theorem Ve3 (h:Vez l n k out false) (hx:l[k]?=some x) (h1:Qdz x n=1):Vez l n (k+1) (out++[n]++[x]) true:=by
 obtain⟨g1,g2,g3,_⟩:=h;obtain⟨e1,e2⟩:=g3 rfl;refine⟨?_,fun y hy=> ?_,fun h=>(by cases h),fun _=>⟨?_,x,?_,oM⟩⟩
 ·rw[List.length_append,List.length_append,List.length_singleton,List.length_singleton];have:out.length≤k:=by rw[e1,List.length_take];omega
  omega
 ·rw[Qmi hx] at hy;rcases List.mem_append.1 hy with hy|hy
  ·exact g2 y hy
  ·rw[List.mem_singleton.1 hy];omega
 ·rw[Qmi hx,Vej e2,e1]
  show _=l.take k++(if Qdz x n= -1 then x::Qu9 [] n else [n,x])
  rw[if_neg oM];simp
 ·rw[Qmi hx];simp
theorem Vev (h:Vez l n k out false) (hx:l[k]?=some x) (h1:Qdz x n= -1):Vez l n (k+1) (out++[x]) false:=by
 obtain⟨g1,g2,g3,_⟩:=h;obtain⟨e1,e2⟩:=g3 rfl;refine⟨by rw[List.length_append,List.length_singleton];omega,fun y hy=> ?_,fun _=>⟨by rw[Qmi hx,e1],fun y hy=> ?_⟩,fun h=>(by cases h)⟩
 ·rw[Qmi hx] at hy;rcases List.mem_append.1 hy with hy|hy
  ·exact g2 y hy
  ·rw[List.mem_singleton.1 hy];omega
 ·rw[Qmi hx] at hy;rcases List.mem_append.1 hy with hy|hy
  ·exact e2 y hy
  ·rw[List.mem_singleton.1 hy];exact h1
theorem Vel (h:Vez l n k out true) (hx:l[k]?=some x) (h1:¬Qdz x n=0):Vez l n (k+1) (out++[x]) true:=by
 obtain⟨g1,g2,_,g4⟩:=h;obtain⟨e1,y,hy,e2⟩:=g4 rfl;refine⟨by rw[List.length_append,List.length_singleton];omega,fun z hz=> ?_,fun h=>(by cases h),fun _=>⟨?_,y,?_,e2⟩⟩
 ·rw[Qmi hx] at hz;rcases List.mem_append.1 hz with hz|hz
  ·exact g2 z hz
  ·rw[List.mem_singleton.1 hz];exact h1
 ·rw[Qmi hx,Vex ⟨y,hy,e2⟩,e1]
 ·rw[Qmi hx];exact List.mem_append_left _ hy
theorem Ve2 {put:Bool} (h:Vez l n l.length out put):(if put=true then out else out++[n])=Qu9 l n∧Qu8 l n=false:=by
 obtain⟨_,g2,g3,g4⟩:=h;rw[List.take_length] at g2 g3 g4;refine⟨?_,hasN_false.2 g2⟩;cases put with
 |true=>rw[if_pos rfl];exact(g4 rfl).1
 |false=>
  obtain⟨e1,e2⟩:=g3 rfl;rw[if_neg sI,e1];have:=Vej (B:=[]) e2;rw[List.append_nil] at this;exact this.symm
end
def Vd7 (d:Dk) (n:No):Dk:=if Q2d d n=0 then Q55 d n else noK
structure GOut (Y:Nat→Prop) (B bx gs rb:Nat) (d:Dk) (W:World) (va vg vw vo:Value) (c3:Nat):Prop where
 cells:∀(i:Nat) (v:Value),([.int .i64 d.site,va,vg,.slice (some ⟨gs,0,none⟩) 5 c3,vw,.int .i64 d.clock,vo]:List Value)[i]?=some v→W.cell? ⟨bx,i,none⟩=some v
 fz:∀o,W.frozen? ⟨bx,o,none⟩=false
 atoms:RSl RAt 3 (fun j=>(j≠bx∧j≠gs∧j≠rb)∧Y j) W va d.state.1
 gone:RSl RMk 2 (fun j=>(j≠bx∧j≠gs∧j≠rb)∧Y j) W vg d.state.2
 waits:RSl RNo 4 (fun j=>(j≠bx∧j≠gs∧j≠rb)∧Y j) W vw d.waits
 out:RSl RNo 4 (fun j=>(j≠bx∧j≠gs∧j≠rb)∧Y j) W vo d.out
 seen:OSl Qe1 1 3 B (fun _=>True) W (.slice (some ⟨gs,0,none⟩) 5 c3) d.seen
 ne:bx≠gs
 rx:rb≠bx
 rg:rb≠gs
 yg:Y gs
 ints:I64 d.site∧I64 d.clock
section
variable {Y:Nat→Prop} {B bx gs rb:Nat} {d:Dk} {W W':World} {va vg vw vo:Value} {c3:Nat}
theorem GOut.lt (h:GOut Y B bx gs rb d W va vg vw vo c3):bx<W.heap.size:=World.block_lt_of_cell? _ _ (h.cells 0 _ rfl)
theorem GOut.glt (h:GOut Y B bx gs rb d W va vg vw vo c3):gs<W.heap.size:=(Qak h.seen gs (by simp[Value.ownBlock])).2
theorem GOut.ext (h:GOut Y B bx gs rb d W va vg vw vo c3) (hx:Ext W W'):GOut Y B bx gs rb d W' va vg vw vo c3:=
 ⟨fun i v hv=>(hx.cells _ _ h.lt).trans (h.cells i v hv),fun o=>(hx.frz _ _ h.lt).trans (h.fz o),h.atoms.ext gAt hx,h.gone.ext gMk hx,h.waits.ext gNo hx,h.out.ext gNo hx,Qai Qd6 h.seen hx,h.ne,h.rx,h.rg,h.yg,h.ints⟩
theorem GOut.seenR (h:GOut Y B bx gs rb d W va vg vw vo c3):RSl Qe1 1 (fun _=>True) W (.slice (some ⟨gs,0,none⟩) 5 c3) d.seen:=Qaz Qd6 h.seen (fun _ _ _=>trivial) (fun _ _=>trivial)
theorem GOut.read (h:GOut Y B bx gs rb d W va vg vw vo c3):RDk (fun _=>True) W [.int .i64 d.site,va,vg,.slice (some ⟨gs,0,none⟩) 5 c3,vw,.int .i64 d.clock,vo] d:=
 ⟨_,_,_,_,_,rfl,h.ints.1,h.atoms.more gAt (fun _ _ _=>trivial),h.gone.more gMk (fun _ _ _=>trivial),h.seenR,h.waits.more gNo (fun _ _ _=>trivial),h.ints.2,h.out.more gNo (fun _ _ _=>trivial)⟩
theorem GOut.upd {d':Dk} {va' vg' vw':Value} (h:GOut Y B bx gs rb d W va vg vw vo c3) (hk:Keeps (fun j=>(j≠bx∧j≠gs∧j≠rb)∧Y j) W W') (hc:∀(i:Nat) (v:Value),([.int .i64 d'.site,va',vg',.slice (some ⟨gs,0,none⟩) 5 c3,vw',.int .i64 d'.clock,vo]:List Value)[i]?=some v→W'.cell? ⟨bx,i,none⟩=some v)
  (hf:∀o,W'.frozen? ⟨bx,o,none⟩=false) (ha:RSl RAt 3 (fun j=>(j≠bx∧j≠gs∧j≠rb)∧Y j) W' va' d'.state.1) (hg:RSl RMk 2 (fun j=>(j≠bx∧j≠gs∧j≠rb)∧Y j) W' vg' d'.state.2) (hw:RSl RNo 4 (fun j=>(j≠bx∧j≠gs∧j≠rb)∧Y j) W' vw' d'.waits)
  (ho:d'.out=d.out) (hs:OSl Qe1 1 3 B (fun _=>True) W' (.slice (some ⟨gs,0,none⟩) 5 c3) d'.seen) (hi:I64 d'.site∧I64 d'.clock):GOut Y B bx gs rb d' W' va' vg' vw' vo c3:=
 ⟨hc,hf,ha,hg,hw,ho▸h.out.keep gNo hk,hs,h.ne,h.rx,h.rg,h.yg,hi⟩
end
end Go.Proofs.YtgnccjojfebkeaaGreat
