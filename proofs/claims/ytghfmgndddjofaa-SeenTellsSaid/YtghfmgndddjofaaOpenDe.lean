/- Arguments as they come in: deeds. -/
import Derived.Test.YtghfmgndddjofaaOpenRn
set_option linter.unusedVariables false
set_option linter.unusedSimpArgs false
namespace Go.Proofs.Ytghfmgndddjofaa
open Go Go.RowKit Go.ChangeShapes Go.WideShapes Go.Deep Cp
section
variable {H : Type} {enc : TypeId × Value → H} {w : World} {sp : Nat → Bool} {held : Bool} {fuel : Nat}
theorem len7 {α : Type} {l : List α} (h : l.length = 7) : ∃ a b c d e f g, l = [a, b, c, d, e, f, g] := by
  match l, h with
  | [a, b, c, d, e, f, g], _ => exact ⟨a, b, c, d, e, f, g, rfl⟩
theorem c_deed : Try.prog.cellsOf 87 = 7 := by kernel_rfl
theorem o_deed {cs : List Value} {y : DataW H × List MemPlace} (hw : Small 87 y.1) (h : DataW.trod enc Try.prog w 0 sp held fuel 87 cs = some y) : ∃ r, RDe T0 w cs r := by
  obtain ⟨xs, n, _, rfl, hl, hx, hg⟩ := DataW.trod_struct Try.underlying87 h
  obtain ⟨c0, c1, c2, c3, c4, c5, c6, rfl⟩ := len7 (hl.trans c_deed)
  obtain ⟨y0, y1, y2, y3, rfl⟩ := len4 hx
  · · have g0 := hg 0 _ rfl
      have g1 := hg 1 _ rfl
      have g2 := hg 2 _ rfl
      have g3 := hg 3 _ rfl
      simp [c_int, c_run, c_mark] at g0 g1 g2 g3
      obtain ⟨k, e0, i0⟩ := o_int Try.underlying3 g0
      obtain ⟨r, v, s, e1, i1, i2, i3⟩ := o_run (small_part Try.underlying87 hw 1 _ _ rfl rfl) g1
      obtain ⟨m, u, e2, i4, i5⟩ := o_mark g2
      obtain ⟨q, e3, i6⟩ := o_int Try.underlying3 g3
      simp at e0 e1 e2 e3
      exact ⟨⟨k, r, m, q⟩, v, s, u, by rw [e0, e1.1, e1.2.1, e1.2.2, e2.1, e2.2, e3], i0, i1, i2, i3, i4, i5, i6⟩
theorem o_deeds {cs : List Value} {y : DataW H × List MemPlace} (hw : Small 23 y.1) (h : DataW.trod enc Try.prog w 0 sp held fuel 23 cs = some y) : ∃ v l, cs = [v] ∧ RSl RDe 7 T0 w v l :=
  o_slS (by omega) Try.underlying23 c_deed (fun _ _ _ _ hs h => o_deed hs h) hw h
end
section
variable {H : Type} {enc : TypeId × Value → H} {w : World} {sp : Nat → Bool} {held : Bool} {b : Nat} {r : Reach} {v : Value} {d : DataW H} {p : List MemPlace}
set_option maxRecDepth 100000 in
theorem in_deed (hv : Value.okWide Try.prog w r b 87 v) (hw : Small 87 d) (h : DataW.Trod enc Try.prog w 0 sp held 87 v d p) :
    ∃ cs s, v = .agg cs.toArray ∧ RDe T0 w cs s := by
  obtain ⟨cs, rfl, _⟩ := okWide_struct Try.underlying87 hv
  obtain ⟨fuel, hf⟩ := h
  obtain ⟨m, hm⟩ := o_deed hw hf
  exact ⟨cs.toList, m, by simp, hm⟩
set_option maxRecDepth 100000 in
theorem in_deeds (hv : Value.okWide Try.prog w r b 23 v) (hw : Small 23 d) (h : DataW.Trod enc Try.prog w 0 sp held 23 v d p) : ∃ l, RSl RDe 7 T0 w v l := by
  obtain ⟨a0, len0, cap0, rfl⟩ := okWide_slice Try.underlying23 hv
  obtain ⟨fuel, hf⟩ := h
  obtain ⟨u, l, e, hx⟩ := o_deeds hw hf
  simp [Value.cells] at e
  subst e
  exact ⟨l, hx⟩
end
end Go.Proofs.Ytghfmgndddjofaa
