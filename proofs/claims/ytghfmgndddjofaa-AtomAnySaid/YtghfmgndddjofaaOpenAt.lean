/- Arguments as they come in: atoms, marks, states. -/
import Derived.Test.YtghfmgndddjofaaOpenC
set_option linter.unusedVariables false
set_option linter.unusedSimpArgs false
namespace Go.Proofs.Ytghfmgndddjofaa
open Go Go.RowKit Go.ChangeShapes Go.WideShapes Go.Deep Cp
section
variable {H : Type} {enc : TypeId × Value → H} {w : World} {sp : Nat → Bool} {held : Bool} {fuel : Nat}
theorem o_byte {t : Nat} {cs : List Value} {y : DataW H × List MemPlace} (hu : Try.prog.underlying t = some (.int .u8)) (h : DataW.trod enc Try.prog w 0 sp held fuel t cs = some y) : ∃ s : UInt8, cs = [.int .u8 (s.toNat : Int)] := by
  obtain ⟨n, e, _, hw⟩ := DataW.trod_int hu h
  obtain ⟨h1, h2⟩ := bounds_u8 hw
  refine ⟨UInt8.ofNat n.toNat, ?_⟩
  rw [e]
  have h3 : ((UInt8.ofNat n.toNat).toNat : Int) = n := by
    rw [UInt8.toNat_ofNat']
    omega
  rw [h3]
theorem c_marks : Try.prog.cellsOf 60 = 1 := by kernel_rfl
theorem c_atom : Try.prog.cellsOf 77 = 3 := by kernel_rfl
theorem c_atoms : Try.prog.cellsOf 59 = 1 := by kernel_rfl
theorem c_byte : Try.prog.cellsOf 5 = 1 := by kernel_rfl
theorem o_atom {cs : List Value} {y : DataW H × List MemPlace} (h : DataW.trod enc Try.prog w 0 sp held fuel 77 cs = some y) : ∃ a, RAt T0 w cs a := by
  obtain ⟨xs, n, _, _, hl, hx, hg⟩ := DataW.trod_struct Try.underlying77 h
  obtain ⟨c0, c1, c2, rfl⟩ := len3 (hl.trans c_atom)
  obtain ⟨y0, y1, rfl⟩ := len2 hx
  · · have g0 := hg 0 _ rfl
      have g1 := hg 1 _ rfl
      simp [c_mark, c_byte] at g0 g1
      obtain ⟨m, v, e0, i0, i1⟩ := o_mark g0
      obtain ⟨s, e1⟩ := o_byte Try.underlying5 g1
      simp at e0 e1
      exact ⟨(m, s), v, by rw [e0.1, e0.2, e1], i0, i1⟩
theorem o_atoms {cs : List Value} {y : DataW H × List MemPlace} (h : DataW.trod enc Try.prog w 0 sp held fuel 59 cs = some y) : ∃ v l, cs = [v] ∧ RSl RAt 3 T0 w v l :=
  o_sl (by omega) Try.underlying59 c_atom (fun _ _ _ _ h => o_atom h) h
theorem o_marks {cs : List Value} {y : DataW H × List MemPlace} (h : DataW.trod enc Try.prog w 0 sp held fuel 60 cs = some y) : ∃ v l, cs = [v] ∧ RSl RMk 2 T0 w v l :=
  o_sl (by omega) Try.underlying60 c_mark (fun _ _ _ _ h => o_mark h) h
end
section
variable {H : Type} {enc : TypeId × Value → H} {w : World} {sp : Nat → Bool} {held : Bool} {b : Nat} {r : Reach} {v : Value} {d : DataW H} {p : List MemPlace}
set_option maxRecDepth 100000 in
theorem in_atoms (hv : Value.okWide Try.prog w r b 59 v) (h : DataW.Trod enc Try.prog w 0 sp held 59 v d p) : ∃ l, RSl RAt 3 T0 w v l := by
  obtain ⟨a0, len0, cap0, rfl⟩ := okWide_slice Try.underlying59 hv
  obtain ⟨fuel, hf⟩ := h
  obtain ⟨u, l, e, hx⟩ := o_atoms hf
  simp [Value.cells] at e
  subst e
  exact ⟨l, hx⟩
set_option maxRecDepth 100000 in
theorem in_marks (hv : Value.okWide Try.prog w r b 60 v) (h : DataW.Trod enc Try.prog w 0 sp held 60 v d p) : ∃ l, RSl RMk 2 T0 w v l := by
  obtain ⟨a0, len0, cap0, rfl⟩ := okWide_slice Try.underlying60 hv
  obtain ⟨fuel, hf⟩ := h
  obtain ⟨u, l, e, hx⟩ := o_marks hf
  simp [Value.cells] at e
  subst e
  exact ⟨l, hx⟩
end
end Go.Proofs.Ytghfmgndddjofaa
