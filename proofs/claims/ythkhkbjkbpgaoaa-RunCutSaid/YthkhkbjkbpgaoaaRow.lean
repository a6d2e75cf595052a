/- Rows of numbers. -/
import Derived.Test.YthkhkbjkbpgaoaaW7
set_option linter.unusedVariables false
set_option linter.unusedSimpArgs false
namespace Go.Proofs.Ythkhkbjkbpgaoaa
open Go Go.RowKit Go.BigFrame Cp

theorem info_int : (Try.prog.info? 3).map (fun i => (i.zero, i.size, i.bytes)) = some (some (.int .i64 0), 1, 8) := by kernel_rfl
/-- a row of numbers -/
def rowL (f : Nat → Int) (n : Nat) : List Int := (List.range n).map f
theorem rowL_len (f : Nat → Int) (n : Nat) : (rowL f n).length = n := by simp [rowL]
theorem rowL_get {f : Nat → Int} {n i : Nat} (h : i < n) : (rowL f n)[i]? = some (f i) := by simp [rowL, h]
theorem rowL_set (f : Nat → Int) (n i : Nat) (x : Int) : (rowL f n).set i x = rowL (fun j => if j = i then x else f j) n := by
  apply List.ext_getElem?
  intro j
  by_cases hj : j < n
  · rw [rowL_get hj]
    by_cases hji : j = i
    · subst hji
      rw [List.getElem?_set_self (by rw [rowL_len]; exact hj), if_pos rfl]
    · rw [List.getElem?_set_ne (Ne.symm hji), rowL_get hj, if_neg hji]
  · rw [List.getElem?_eq_none (by simp [rowL]; omega), List.getElem?_eq_none (by simp [rowL]; omega)]
theorem osl_made {e base : Nat} {F : Nat → Prop} {w : World} {v : Value} {n : Nat} (h : w.ownsRow base e 1 v n (madeCells (Value.int .i64 0).cells (n * 1)).toList) : OSl RInt 1 e base F w v (rowL (fun _ => 0) n) := by
  have e1 : (madeCells (Value.int .i64 0).cells (n * 1)).toList = List.replicate n (.int .i64 0) := by
    rw [Nat.mul_one]; exact toList_madeCells_one _ _
  rw [e1] at h
  refine ⟨List.replicate n (.int .i64 0), by rw [rowL_len]; exact h, by simp [rowL], fun i x hi => ?_⟩
  have hi' : i < n := by
    have := (List.getElem?_eq_some_iff.1 hi).1
    rwa [rowL_len] at this
  rw [rowL_get hi'] at hi
  have hx : (0 : Int) = x := by simpa using hi
  subst hx
  refine ⟨?_, by unfold I64; omega⟩
  rw [Nat.mul_one]
  apply List.ext_getElem?
  intro j
  by_cases hj : j < 1
  · obtain rfl : j = 0 := by omega
    rw [List.getElem?_take_of_lt (by omega), List.getElem?_drop]
    simp [hi']
  · rw [List.getElem?_eq_none (by simp; omega), List.getElem?_eq_none (by simp; omega)]
/-- a number of a row, where it lies -/
theorem row_at {e base : Nat} {F : Nat → Prop} {w : World} {g n c : Nat} {f : Nat → Int} {m i : Nat} (h : OSl RInt 1 e base F w (.slice (some ⟨g, 0, none⟩) n c) (rowL f m)) (hi : i < m) :
    base ≤ g ∧ g < w.heap.size ∧ w.cell? ⟨g, i, none⟩ = some (.int .i64 (f i)) ∧ I64 (f i) ∧ w.frozen? ⟨g, i, none⟩ = false := by
  obtain ⟨g', x, cs, _, ha, hb, hs, hx, _, hr, ⟨rfl, hI⟩, hf⟩ := osl_at h (i := i) (by rw [rowL_len]; exact hi)
  injection ha with ha
  injection ha with ha _ _
  subst ha
  rw [rowL_get hi] at hx
  have : f i = x := by simpa using hx
  subst this
  exact ⟨hb, hs, by simpa using hr 0 _ rfl, hI, hf i⟩
theorem row_put {e base : Nat} {F : Nat → Prop} {w : World} {g n c : Nat} {f f' : Nat → Int} {m i : Nat} {x : Int} (h : OSl RInt 1 e base F w (.slice (some ⟨g, 0, none⟩) n c) (rowL f m)) (hi : i < m) (hx : I64 x)
    (hf : ∀ j, j < m → f' j = if j = i then x else f j) : OSl RInt 1 e base F (w.setCell ⟨g, i, none⟩ (.int .i64 x)) (.slice (some ⟨g, 0, none⟩) n c) (rowL f' m) := by
  have h1 := osl_put gInt h (i := i) (j := 0) (by rw [rowL_len]; exact hi) (by omega) (u := .int .i64 x) (x := x) (fun G W cs y _ hy => by obtain ⟨rfl, _⟩ := hy; exact ⟨rfl, hx⟩)
  rw [rowL_set] at h1
  have e1 : rowL (fun j => if j = i then x else f j) m = rowL f' m := List.map_congr_left (fun j hj => (hf j (List.mem_range.1 hj)).symm)
  rw [e1] at h1
  simpa using h1
theorem row_same {m : Nat} {f f' : Nat → Int} (h : ∀ j, j < m → f j = f' j) : rowL f m = rowL f' m := List.map_congr_left (fun j hj => h j (List.mem_range.1 hj))

end Go.Proofs.Ythkhkbjkbpgaoaa
