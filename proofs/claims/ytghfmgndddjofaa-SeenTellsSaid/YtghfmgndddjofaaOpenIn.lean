/- Arguments as they come in: numbers. -/
import Derived.Test.YtghfmgndddjofaaOpenC
set_option linter.unusedVariables false
set_option linter.unusedSimpArgs false
namespace Go.Proofs.Ytghfmgndddjofaa
open Go Go.RowKit Go.ChangeShapes Go.WideShapes Go.Deep Cp
section
variable {H : Type} {enc : TypeId × Value → H} {w : World} {sp : Nat → Bool} {held : Bool} {fuel : Nat}
theorem c_ints : Try.prog.cellsOf 22 = 1 := by kernel_rfl
theorem o_ints {cs : List Value} {y : DataW H × List MemPlace} (h : DataW.trod enc Try.prog w 0 sp held fuel 22 cs = some y) : ∃ v l, cs = [v] ∧ RSl RInt 1 T0 w v l :=
  o_sl (by omega) Try.underlying22 c_int (fun _ _ _ _ h => by obtain ⟨n, e, i⟩ := o_int Try.underlying3 h; exact ⟨n, e, i⟩) h
end
section
variable {H : Type} {enc : TypeId × Value → H} {w : World} {sp : Nat → Bool} {held : Bool} {b : Nat} {r : Reach} {v : Value} {d : DataW H} {p : List MemPlace}
set_option maxRecDepth 100000 in
theorem in_ints (hv : Value.okWide Try.prog w r b 22 v) (h : DataW.Trod enc Try.prog w 0 sp held 22 v d p) : ∃ l, RSl RInt 1 T0 w v l := by
  obtain ⟨a0, len0, cap0, rfl⟩ := okWide_slice Try.underlying22 hv
  obtain ⟨fuel, hf⟩ := h
  obtain ⟨u, l, e, hx⟩ := o_ints hf
  simp [Value.cells] at e
  subst e
  exact ⟨l, hx⟩
end
end Go.Proofs.Ytghfmgndddjofaa
