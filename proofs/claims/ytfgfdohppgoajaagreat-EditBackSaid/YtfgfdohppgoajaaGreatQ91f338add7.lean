/- What must be in any case, of edits. -/
import Derived.Test.YtfgfdohppgoajaaGreatQ79993fbc46
import Derived.Test.YtfgfdohppgoajaaGreatQ9df219c57f
import Derived.Test.YtfgfdohppgoajaaGreatQ9796262096
import Derived.Test.YtfgfdohppgoajaaGreatQ0735d7eff0
import Derived.Test.YtfgfdohppgoajaaGreatQ474d344618
import Derived.Test.YtfgfdohppgoajaaGreatQ5ab4d67304
set_option linter.unusedVariables false
set_option linter.unusedSimpArgs false
namespace Go.Proofs.YtfgfdohppgoajaaGreat
open Go Go.RowKit Go.BigFrame Cp

theorem eb_plain : plainE [104, 105] ⟨1, 1, 0, [97]⟩ = ([104, 97, 105], 0) := by decide
theorem eb_put : putE (hiL, []) 1 [97] 1 1 = 0 := by decide
theorem eb_cut : cutE (hiL, []) 0 2 = 0 := by decide
theorem eb_cutV : cutV (hiL, []) 0 2 = [takeDe (([(3, 0)], 1), [104, 105])] := by
  unfold cutV
  rw [if_pos eb_cut]
  rfl
section
variable {F G : Nat → Prop} {w : World} {cs : List Value}
theorem eb_put1 (h : RSt F w cs (hiL, [])) : Calls Tryz.prog 7 #[.agg cs.toArray, .int .i64 1, .string ⟨#[97]⟩, .int .i64 1, .int .i64 1] w (IsDesE (putV (hiL, []) 1 [97] 1 1) 0 w) := by
  have h1 := editPut_any (p := 1) (site := 1) (clock := 1) (u := ⟨#[97]⟩) h (i64_small (by simp) (by simp)) (by decide) (i64_small (by simp) (by simp))
  rw [show (⟨#[97]⟩ : ByteArray).data.toList = [97] from rfl, eb_put] at h1
  exact h1
theorem eb_take1 (h : RSt F w cs (hiL, [])) : Calls Tryz.prog 9 #[.agg cs.toArray, .int .i64 0, .int .i64 2] w (IsDesE [takeDe (([(3, 0)], 1), [104, 105])] 0 w) := by
  have h1 := editTake_any (at_ := 0) (many := 2) h (i64_small (by simp) (by simp)) (i64_small (by simp) (by simp))
  rw [eb_cut, eb_cutV] at h1
  exact h1
theorem eb_plain1 : Calls Tryz.prog 35 #[.string ⟨#[104, 105]⟩, .agg #[.int .i64 1, .int .i64 1, .int .i64 0, .string ⟨#[97]⟩]] w fun e w' => e = .returned (.tuple #[.string ⟨#[104, 97, 105]⟩, .int .i64 0]) ∧ Ext w w' := by
  have h1 := plain_any (F := fun _ => True) (w := w) (cs := [.int .i64 1, .int .i64 1, .int .i64 0, .string ⟨#[97]⟩]) (e := ⟨1, 1, 0, [97]⟩) ⟨#[104, 105]⟩ (by decide) ⟨_, rfl, (i64_small (by simp) (by simp)), (i64_small (by simp) (by simp)), (i64_small (by simp) (by simp)), rfl, by simp⟩
  rw [show (⟨#[104, 105]⟩ : ByteArray).data.toList = [104, 105] from rfl, eb_plain] at h1
  refine h1.mono ?_
  rintro e w' ⟨v, rfl, ⟨rfl, _⟩, hx⟩
  exact ⟨rfl, hx⟩
theorem eb_is {x : Value} (h : RSt F w cs (hiL, [])) (k : RSl RDe 7 G w x (putV (hiL, []) 1 [97] 1 1)) : Calls Tryz.prog 36 #[.agg cs.toArray, .int .i64 1, .string ⟨#[97]⟩, .int .i64 1, .int .i64 1, x] w fun e w' => e = .returned (.bool true) ∧ Ext w w' :=
  isPut_any (k := 1) (u := ⟨#[97]⟩) h k eb_put
end
set_option maxRecDepth 100000 in
set_option maxHeartbeats 4000000 in
theorem editBegun_any (w : World) : Calls Tryz.prog 5 #[] w fun e w' => e = .returned (.bool true) ∧ Ext w w' := by
  go_enter Tryz.func5, Tryz.ntmps5
  go_wp2_with (first | (go_at_call 23; go_must ((with_reducible refine (hi_any _).mono ?_); rintro e w1 ⟨v1, rfl, hv1, hx1⟩; obtain ⟨a1, n1, c1, rfl⟩ := hv1.slice; obtain rfl : n1 = 2 := hv1.len.1; have HV1 := Lib.hid hv1; have hs1 := hx1.size; (try simp at hs1); have HX1 := Lib.hid (show Ext w w1 from ext_trans extA hx1); clear hv1)) | (go_at_call 35; go_must ((with_reducible refine (eb_plain1).mono ?_); rintro e w2 ⟨rfl, hx2⟩; have hs2 := hx2.size; (try simp at hs2); have l2 : w1.heap.size < w2.heap.size := (by omega); have p0 := (hx2.cells (w1.heap.size) 0 (by first | omega | (simp <;> omega))).trans (show _ = some (.slice a1 2 c1) by first | assumption | go_simp); have p1 := (hx2.cells (w1.heap.size) 1 (by first | omega | (simp <;> omega))).trans (show _ = some (.slice none 0 0) by first | assumption | go_simp); have HX2 := Lib.hid (show Ext w w2 from ext_trans (ext_trans HX1.out extA) hx2); have HX21 := Lib.hid (show Ext w1 w2 from ext_trans extA hx2))) | (go_at_call 7; go_must ((with_reducible refine (eb_put1 (rst_of (HV1.out.ext gAt (ext_trans HX21.out extA)) (RSl.nil_ (a := none) (Nat.zero_le _)))).mono ?_); rintro e w3 ⟨v3, rfl, hv3, hx3⟩; obtain ⟨a3, n3, c3, rfl⟩ := hv3.slice; have HV3 := Lib.hid hv3; have hs3 := hx3.size; (try simp at hs3); have l3 : w1.heap.size < w3.heap.size := (by omega); have q0 := (hx3.cells (w1.heap.size) 0 (by first | omega | (simp <;> omega))).trans (show _ = some (.slice a1 2 c1) by first | assumption | go_simp); have q1 := (hx3.cells (w1.heap.size) 1 (by first | omega | (simp <;> omega))).trans (show _ = some (.slice none 0 0) by first | assumption | go_simp); have HX3 := Lib.hid (show Ext w w3 from ext_trans (ext_trans HX2.out extA) hx3); have HX31 := Lib.hid (show Ext w1 w3 from ext_trans (ext_trans HX21.out extA) hx3); clear hv3)) | (go_at_call 9; go_must ((with_reducible refine (eb_take1 (rst_of (HV1.out.ext gAt (ext_trans HX31.out extA)) (RSl.nil_ (a := none) (Nat.zero_le _)))).mono ?_); rintro e w4 ⟨v4, rfl, hv4, hx4⟩; obtain ⟨a4, n4, c4, rfl⟩ := hv4.slice; obtain rfl : n4 = 1 := hv4.len.1; have HV4 := Lib.hid hv4; have hs4 := hx4.size; (try simp at hs4); have l4 : w1.heap.size < w4.heap.size := (by omega); have r0 := (hx4.cells (w1.heap.size) 0 (by first | omega | (simp <;> omega))).trans (show _ = some (.slice a1 2 c1) by first | assumption | go_simp); have r1 := (hx4.cells (w1.heap.size) 1 (by first | omega | (simp <;> omega))).trans (show _ = some (.slice none 0 0) by first | assumption | go_simp); have HX4 := Lib.hid (show Ext w w4 from ext_trans (ext_trans HX3.out extA) hx4); have HX41 := Lib.hid (show Ext w1 w4 from ext_trans (ext_trans HX31.out extA) hx4); have HX43 := Lib.hid (show Ext w3 w4 from ext_trans extA hx4); clear hv4; obtain ⟨b, o, d, b1', m1, e1', b2', m2, e2', sx, rfl, hb, ek, hde, u0, u1, u2, u3, u4, u5, u6⟩ := deed_at HV4.out (show 0 < 1 by omega); obtain rfl : d = takeDe (([(3, 0)], 1), [104, 105]) := (by simpa using ek.symm); have u6' : w4.cell? ⟨b, o + 6, none⟩ = some (.int .i64 2) := (by simpa [takeDe] using u6); clear u0 u1 u2 u3 u4 u5 u6 ek hde HV4)) | (go_at_call 36; go_must ((with_reducible refine (eb_is (rst_of (HV1.out.ext gAt (ext_trans HX41.out extA)) (RSl.nil_ (a := none) (Nat.zero_le _))) (HV3.out.ext gDe (ext_trans HX43.out extA))).mono ?_); rintro e w5 ⟨rfl, hx5⟩; have u7 : w5.cell? ⟨b, o + 6, none⟩ = some (.int .i64 2) := (hx5.cells _ _ (by first | omega | (simp <;> omega))).trans (by first | assumption | go_simp); have HX5 := Lib.hid (show Ext w w5 from ext_trans (ext_trans HX4.out extA) hx5))))
  go_ret
  exact ⟨rfl, ext_trans HX5.out extA⟩
end Go.Proofs.YtfgfdohppgoajaaGreat
