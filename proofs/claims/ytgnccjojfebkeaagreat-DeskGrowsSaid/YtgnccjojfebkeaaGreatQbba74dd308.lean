/- Rows of numbers. -/
import Derived.Test.YtgnccjojfebkeaaGreatQ463d8804a1
import Derived.Test.YtgnccjojfebkeaaGreatQe1b3bbb0d1
set_option linter.unusedVariables false
set_option linter.unusedSimpArgs false
set_option maxRecDepth 100000
namespace Go.Proofs.YtgnccjojfebkeaaGreat
open Go Go.RowKit Go.BigFrame Cp
theorem Vfb (f:Nat→Int) (n i:Nat) (x:Int):(Vao f n).set i x=Vao (fun j=>if j=i then x else f j) n:=by
 apply List.ext_getElem?
 intro j;by_cases hj:j<n
 ·rw[Qx8 hj];by_cases hji:j=i
  ·subst hji;rw[List.getElem?_set_self (by rw[Qx9];exact hj),if_pos rfl]
  ·rw[List.getElem?_set_ne (Ne.symm hji),Qx8 hj,if_neg hji]
 ·rw[List.getElem?_eq_none (by simp[Vao];omega),List.getElem?_eq_none (by simp[Vao];omega)]
theorem Vfl {e base:Nat} {F:Nat→Prop} {w:World} {g n c:Nat} {f f':Nat→Int} {m i:Nat} {x:Int} (h:OSl Qe1 1 e base F w (.slice (some ⟨g,0,none⟩) n c) (Vao f m)) (hi:i<m) (hx:I64 x)
  (hf:∀j,j<m→f' j=if j=i then x else f j):OSl Qe1 1 e base F (w.setCell ⟨g,i,none⟩ (.int .i64 x)) (.slice (some ⟨g,0,none⟩) n c) (Vao f' m):=by
 have h1:=Qf4 Qd6 h (i:=i) (j:=0) (by rw[Qx9];exact hi) oM (u:= .int .i64 x) (x:=x) (fun G W cs y _ hy=>by obtain⟨rfl,_⟩:=hy;exact⟨rfl,hx⟩);rw[Vfb] at h1;have e1:Vao (fun j=>if j=i then x else f j) m=Vao f' m:=List.map_congr_left (fun j hj=>(hf j (List.mem_range.1 hj)).symm);rw[e1] at h1;simpa using h1
theorem Vfc {m:Nat} {f f':Nat→Int} (h:∀j,j<m→f j=f' j):Vao f m=Vao f' m:=List.map_congr_left (fun j hj=>h j (List.mem_range.1 hj))
end Go.Proofs.YtgnccjojfebkeaaGreat
