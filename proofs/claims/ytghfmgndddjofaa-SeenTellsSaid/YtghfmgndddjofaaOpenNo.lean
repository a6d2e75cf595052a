/- Arguments as they come in: notes. -/
import Derived.Test.YtghfmgndddjofaaOpenDe
import Derived.Test.YtghfmgndddjofaaOpenIn
set_option linter.unusedVariables false
set_option linter.unusedSimpArgs false
namespace Go.Proofs.Ytghfmgndddjofaa
open Go Go.RowKit Go.ChangeShapes Go.WideShapes Go.Deep Cp
section
variable {H : Type} {enc : TypeId × Value → H} {w : World} {sp : Nat → Bool} {held : Bool} {fuel : Nat}
theorem c_note : Try.prog.cellsOf 25 = 4 := by kernel_rfl
theorem c_deeds : Try.prog.cellsOf 23 = 1 := by kernel_rfl
theorem o_note {cs : List Value} {y : DataW H × List MemPlace} (hw : Small 25 y.1) (h : DataW.trod enc Try.prog w 0 sp held fuel 25 cs = some y) : ∃ r, RNo T0 w cs r := by
  obtain ⟨xs, n, _, rfl, hl, hx, hg⟩ := DataW.trod_struct Try.underlying25 h
  obtain ⟨c0, c1, c2, c3, rfl⟩ := len4 (hl.trans c_note)
  obtain ⟨y0, y1, y2, y3, rfl⟩ := len4 hx
  · · have g0 := hg 0 _ rfl
      have g1 := hg 1 _ rfl
      have g2 := hg 2 _ rfl
      have g3 := hg 3 _ rfl
      simp [c_int, c_ints, c_deeds] at g0 g1 g2 g3
      obtain ⟨a, e0, i0⟩ := o_int Try.underlying3 g0
      obtain ⟨b, e1, i1⟩ := o_int Try.underlying3 g1
      obtain ⟨v, l, e2, i2⟩ := o_ints g2
      obtain ⟨u, q, e3, i3⟩ := o_deeds (small_part Try.underlying25 hw 3 _ _ rfl rfl) g3
      simp at e0 e1 e2 e3
      exact ⟨⟨a, b, l, q⟩, v, u, by rw [e0, e1, e2, e3], i0, i1, i2, i3⟩
end
section
variable {H : Type} {enc : TypeId × Value → H} {w : World} {sp : Nat → Bool} {held : Bool} {b : Nat} {r : Reach} {v : Value} {d : DataW H} {p : List MemPlace}
set_option maxRecDepth 100000 in
theorem in_note (hv : Value.okWide Try.prog w r b 25 v) (hw : Small 25 d) (h : DataW.Trod enc Try.prog w 0 sp held 25 v d p) :
    ∃ cs s, v = .agg cs.toArray ∧ RNo T0 w cs s := by
  obtain ⟨cs, rfl, _⟩ := okWide_struct Try.underlying25 hv
  obtain ⟨fuel, hf⟩ := h
  obtain ⟨m, hm⟩ := o_note hw hf
  exact ⟨cs.toList, m, by simp, hm⟩
end
end Go.Proofs.Ytghfmgndddjofaa
