/- Arguments as they come in: states. -/
import Derived.Test.YthkhkbjkbpgaoaaOpenAt
set_option linter.unusedVariables false
set_option linter.unusedSimpArgs false
namespace Go.Proofs.Ythkhkbjkbpgaoaa
open Go Go.RowKit Go.ChangeShapes Go.WideShapes Go.Deep Cp
section
variable {H : Type} {enc : TypeId × Value → H} {w : World} {sp : Nat → Bool} {held : Bool} {fuel : Nat}
theorem c_state : Try.prog.cellsOf 40 = 2 := by kernel_rfl
theorem o_state {cs : List Value} {y : DataW H × List MemPlace} (h : DataW.trod enc Try.prog w 0 sp held fuel 40 cs = some y) : ∃ s, RSt T0 w cs s := by
  obtain ⟨xs, n, _, _, hl, hx, hg⟩ := DataW.trod_struct Try.underlying40 h
  obtain ⟨c0, c1, rfl⟩ := len2 (hl.trans c_state)
  obtain ⟨y0, y1, rfl⟩ := len2 hx
  · · have g0 := hg 0 _ rfl
      have g1 := hg 1 _ rfl
      simp [c_atoms, c_marks] at g0 g1
      obtain ⟨v, l, e0, i0⟩ := o_atoms g0
      obtain ⟨u, m, e1, i1⟩ := o_marks g1
      simp at e0 e1
      exact ⟨(l, m), v, u, by rw [e0, e1], i0, i1⟩
end
section
variable {H : Type} {enc : TypeId × Value → H} {w : World} {sp : Nat → Bool} {held : Bool} {b : Nat} {r : Reach} {v : Value} {d : DataW H} {p : List MemPlace}
set_option maxRecDepth 100000 in
theorem in_state (hv : Value.okWide Try.prog w r b 40 v) (h : DataW.Trod enc Try.prog w 0 sp held 40 v d p) :
    ∃ cs s, v = .agg cs.toArray ∧ RSt T0 w cs s := by
  obtain ⟨cs, rfl, _⟩ := okWide_struct Try.underlying40 hv
  obtain ⟨fuel, hf⟩ := h
  obtain ⟨m, hm⟩ := o_state hf
  exact ⟨cs.toList, m, by simp, hm⟩
end
end Go.Proofs.Ythkhkbjkbpgaoaa
