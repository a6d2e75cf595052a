/- Arguments as they come in: runs. -/
import Derived.Test.YthkhkbjkbpgaoaaOpenAt
set_option linter.unusedVariables false
set_option linter.unusedSimpArgs false
namespace Go.Proofs.Ythkhkbjkbpgaoaa
open Go Go.RowKit Go.ChangeShapes Go.WideShapes Go.Deep Cp
section
variable {H : Type} {enc : TypeId × Value → H} {w : World} {sp : Nat → Bool} {held : Bool} {fuel : Nat}
theorem c_run : Try.prog.cellsOf 67 = 3 := by kernel_rfl
theorem o_run {cs : List Value} {y : DataW H × List MemPlace} (hw : Small 67 y.1) (h : DataW.trod enc Try.prog w 0 sp held fuel 67 cs = some y) : ∃ r, RRn T0 w cs r := by
  obtain ⟨xs, n, _, rfl, hl, hx, hg⟩ := DataW.trod_struct Try.underlying67 h
  obtain ⟨c0, c1, c2, rfl⟩ := len3 (hl.trans c_run)
  obtain ⟨y0, y1, rfl⟩ := len2 hx
  · · have g0 := hg 0 _ rfl
      have g1 := hg 1 _ rfl
      simp [c_mark, c_str] at g0 g1
      obtain ⟨m, v, e0, i0, i1⟩ := o_mark g0
      obtain ⟨u, t, e1, i2⟩ := o_str Try.underlying9 (small_part Try.underlying67 hw 1 _ _ rfl rfl) g1
      simp at e0 e1
      exact ⟨(m, t), v, u, by rw [e0.1, e0.2, e1], i0, i1, i2⟩
end
section
variable {H : Type} {enc : TypeId × Value → H} {w : World} {sp : Nat → Bool} {held : Bool} {b : Nat} {r : Reach} {v : Value} {d : DataW H} {p : List MemPlace}
set_option maxRecDepth 100000 in
theorem in_run (hv : Value.okWide Try.prog w r b 67 v) (hw : Small 67 d) (h : DataW.Trod enc Try.prog w 0 sp held 67 v d p) :
    ∃ cs s, v = .agg cs.toArray ∧ RRn T0 w cs s := by
  obtain ⟨cs, rfl, _⟩ := okWide_struct Try.underlying67 hv
  obtain ⟨fuel, hf⟩ := h
  obtain ⟨m, hm⟩ := o_run hw hf
  exact ⟨cs.toList, m, by simp, hm⟩
end
end Go.Proofs.Ythkhkbjkbpgaoaa
