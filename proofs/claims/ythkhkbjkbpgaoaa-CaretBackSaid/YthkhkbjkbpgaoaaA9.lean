/- Two atoms; what must be in any case, of carets. -/
import Derived.Test.YthkhkbjkbpgaoaaA8
import Derived.Test.YthkhkbjkbpgaoaaAT
import Derived.Test.YthkhkbjkbpgaoaaLate2
set_option linter.unusedVariables false
set_option linter.unusedSimpArgs false
namespace Go.Proofs.Ythkhkbjkbpgaoaa
open Go Go.RowKit Go.BigFrame Cp

def IsAtoms (l : List At) (w : World) (e : Ending) (w' : World) : Prop := ∃ v, e = .returned v ∧ RSl RAt 3 (fun k => w.heap.size ≤ k) w' v l ∧ Ext w w'
def hiL : List At := [(([(3, 0)], 1), 104), (([(4, 0)], 2), 105)]
theorem rangeAt_app {w : World} {b o : Nat} {xs ys : List Value} (h : w.rangeAt b o xs) (k : w.rangeAt b (o + xs.length) ys) : w.rangeAt b o (xs ++ ys) := by
  intro j v hv
  by_cases hj : j < xs.length
  · rw [List.getElem?_append_left hj] at hv; exact h j v hv
  · rw [List.getElem?_append_right (by omega)] at hv
    have := k _ v hv
    rwa [show o + xs.length + (j - xs.length) = o + j by omega] at this
theorem atoms_two {F : Nat → Prop} {W : World} {r : Nat} {v1 v2 : Value} {p1 p2 : List Stp} {c1 c2 : Int} {s1 s2 : UInt8} (h1 : RSl RStp 2 F W v1 p1) (h2 : RSl RStp 2 F W v2 p2) (i1 : I64 c1) (i2 : I64 c2)
    (z0 : W.cell? ⟨r, 0, none⟩ = some v1) (z1 : W.cell? ⟨r, 1, none⟩ = some (.int .i64 c1)) (z2 : W.cell? ⟨r, 2, none⟩ = some (.int .u8 s1.toNat))
    (z3 : W.cell? ⟨r, 3, none⟩ = some v2) (z4 : W.cell? ⟨r, 4, none⟩ = some (.int .i64 c2)) (z5 : W.cell? ⟨r, 5, none⟩ = some (.int .u8 s2.toNat)) (hF : F r) (hr : r < W.heap.size) :
    RSl RAt 3 F W (.slice (some ⟨r, 0, none⟩) 2 2) [((p1, c1), s1), ((p2, c2), s2)] :=
  rsl_of_range (rangeAt_app (rangeAt3 z0 z1 z2) (rangeAt3 z3 z4 z5)) (chunks_app (R := RAt) (sz := 3) (F := F) (w := W) (chunks_one (x := ((p1, c1), s1)) rfl ⟨_, rfl, h1, i1⟩) (chunks_one (x := ((p2, c2), s2)) rfl ⟨_, rfl, h2, i2⟩)) hF hr (Nat.le_refl _) (by unfold maxLen; omega)
set_option maxRecDepth 100000 in
set_option maxHeartbeats 4000000 in
theorem hi_any (w : World) : Calls Try.prog 62 #[] w (IsAtoms hiL w) := by
  go_enter Try.func62, Try.ntmps62
  go_wp2_with (first
    | (go_at_call 63; ((with_reducible refine (at_any 3 0 1 (i64_small (by simp) (by simp)) (i64_small (by simp) (by simp)) (i64_small (by simp) (by simp)) _).mono ?_); rintro e w1 ⟨cs1, rfl, hm1, hx1⟩; obtain ⟨v1, rfl, hv1, hi1⟩ := hm1; obtain ⟨a1, n1, c1, rfl⟩ := hv1.slice; obtain rfl : n1 = 1 := hv1.len.1; have HV1 := Lib.hid hv1; clear hv1 hi1; have hz1 := hx1.size))
    | (go_at_call 63; ((with_reducible refine (at_any 4 0 2 (i64_small (by simp) (by simp)) (i64_small (by simp) (by simp)) (i64_small (by simp) (by simp)) _).mono ?_); rintro e w2 ⟨cs2, rfl, hm2, hx2⟩; obtain ⟨v2, rfl, hv2, hi2⟩ := hm2; obtain ⟨a2, n2, c2, rfl⟩ := hv2.slice; obtain rfl : n2 = 1 := hv2.len.1; have HV2 := Lib.hid hv2; clear hv2 hi2; have hz2 := hx2.size)))
  go_ret
  exact ⟨_, rfl, atoms_two (c1 := 1) (c2 := 2) (s1 := 104) (s2 := 105) (RSl.more gStp (fun k hk _ => (show w.heap.size ≤ k by omega)) (HV1.out.ext gStp (by repeat (first | (with_reducible exact ext_refl _) | (with_reducible assumption) | (with_reducible refine ext_drew ?_) | (with_reducible refine ext_drewN ?_ _) | (with_reducible refine ext_alloc ?_ _) | (with_reducible refine ext_set ?_ (by first | omega | (simp <;> omega)) _) | (with_reducible refine ext_trans ?_ (by with_reducible assumption)))))) (RSl.more gStp (fun k hk _ => (show w.heap.size ≤ k by omega)) (HV2.out.ext gStp (by repeat (first | (with_reducible exact ext_refl _) | (with_reducible assumption) | (with_reducible refine ext_drew ?_) | (with_reducible refine ext_drewN ?_ _) | (with_reducible refine ext_alloc ?_ _) | (with_reducible refine ext_set ?_ (by first | omega | (simp <;> omega)) _) | (with_reducible refine ext_trans ?_ (by with_reducible assumption)))))) (i64_small (by simp) (by simp)) (i64_small (by simp) (by simp)) (by go_simp) (by go_simp) (by go_simp) (by go_simp) (by go_simp) (by go_simp) (by first | omega | (simp <;> omega)) (by first | omega | (simp <;> omega)), (by repeat (first | (with_reducible exact ext_refl _) | (with_reducible assumption) | (with_reducible refine ext_drew ?_) | (with_reducible refine ext_drewN ?_ _) | (with_reducible refine ext_alloc ?_ _) | (with_reducible refine ext_set ?_ (by first | omega | (simp <;> omega)) _) | (with_reducible refine ext_trans ?_ (by with_reducible assumption))))⟩
theorem hi_checkS : checkS (hiL, []) = 0 := by decide
theorem hi_of : caretOf (hiL, []) 1 = (([(3, 0)], 1), 0) := by decide
theorem hi_at : caretAt (hiL, []) ([(3, 0)], 1) = (1, 0) := by decide
theorem hi_at0 : caretAt (hiL, []) ([], 0) = (0, 0) := by decide
theorem begun_same3 {F G : Nat → Prop} {w : World} {cs ds : List Value} (ha : RMk F w cs ([(3, 0)], 1)) (hb : RMk G w ds ([(3, 0)], 1)) : Calls Try.prog 29 #[.agg cs.toArray, .agg ds.toArray] w fun e w' => e = .returned (.bool true) ∧ Ext w w' := by
  have h1 := same_any ha hb
  have e : (ordM (([(3, 0)], 1) : Mk) ([(3, 0)], 1) == 0) = true := by decide
  rw [e] at h1
  exact h1
abbrev m3 : Mk := ([(3, 0)], 1)
theorem begun_of {F : Nat → Prop} {w : World} {cs : List Value} (h : RSt F w cs (hiL, [])) : Calls Try.prog 22 #[.agg cs.toArray, .int .i64 1] w (IsMarkE m3 0 w) := by
  have h1 := ofCaret_any (n := 1) h (i64_small (by simp) (by simp))
  rw [hi_of] at h1
  exact h1
theorem begun_at {F G : Nat → Prop} {w : World} {cs ds : List Value} (h : RSt F w cs (hiL, [])) (k : RMk G w ds m3) : Calls Try.prog 23 #[.agg cs.toArray, .agg ds.toArray] w (IsTwo 1 0 w) := by
  have h1 := atCaret_any h k
  rw [hi_at] at h1
  exact h1
theorem begun_at0 {F : Nat → Prop} {w : World} {cs : List Value} (h : RSt F w cs (hiL, [])) : Calls Try.prog 23 #[.agg cs.toArray, .agg #[.slice none 0 0, .int .i64 0]] w (IsTwo 0 0 w) := by
  have h1 := atCaret_any h (rmk_zero (F := fun _ => True))
  rw [hi_at0] at h1
  exact h1
set_option maxRecDepth 100000 in
set_option maxHeartbeats 4000000 in
theorem caretBegun_any (w : World) : Calls Try.prog 28 #[] w fun e w' => e = .returned (.bool true) ∧ Ext w w' := by
  go_enter Try.func28, Try.ntmps28
  go_wp2_with (first
    | (go_at_call 62; go_must ((with_reducible refine (hi_any _).mono ?_); rintro e w1 ⟨v1, rfl, hv1, hx1⟩; obtain ⟨a1, n1, c1, rfl⟩ := hv1.slice; obtain rfl : n1 = 2 := hv1.len.1; have HV1 := Lib.hid hv1; clear hv1; have hz1 := hx1.size))
    | (go_at_call 22; go_must ((with_reducible refine (begun_of (rst_of (HV1.out.ext gAt (by repeat (first | (with_reducible exact ext_refl _) | (with_reducible assumption) | (with_reducible refine ext_drew ?_) | (with_reducible refine ext_drewN ?_ _) | (with_reducible refine ext_alloc ?_ _) | (with_reducible refine ext_set ?_ (by first | omega | (simp <;> omega)) _) | (with_reducible refine ext_trans ?_ (by with_reducible assumption))))) (RSl.nil_ (a := none) (Nat.zero_le _)))).mono ?_); rintro e w2 ⟨cs2, rfl, hm2, hx2⟩; obtain ⟨v2, rfl, hv2, hi2⟩ := hm2; obtain ⟨a2, n2, c2, rfl⟩ := hv2.slice; obtain rfl : n2 = 1 := hv2.len.1; have HV2 := Lib.hid hv2; clear hv2; have hz2 := hx2.size; (try simp at hz2); have hb2 : w1.heap.size < w2.heap.size := (by omega); have r0 := (hx2.cells (w1.heap.size) (0) (by first | omega | (simp <;> omega))).trans (show _ = some (.slice a1 2 c1) by first | assumption | go_simp); have r1 := (hx2.cells (w1.heap.size) (1) (by first | omega | (simp <;> omega))).trans (show _ = some (.slice none 0 0) by first | assumption | go_simp)))
    | (go_at_call 23; ((with_reducible refine (begun_at (rst_of (HV1.out.ext gAt (by repeat (first | (with_reducible exact ext_refl _) | (with_reducible assumption) | (with_reducible refine ext_drew ?_) | (with_reducible refine ext_drewN ?_ _) | (with_reducible refine ext_alloc ?_ _) | (with_reducible refine ext_set ?_ (by first | omega | (simp <;> omega)) _) | (with_reducible refine ext_trans ?_ (by with_reducible assumption))))) (RSl.nil_ (a := none) (Nat.zero_le _))) (rmk_of' (c := 1) (HV2.out.ext gStp (by repeat (first | (with_reducible exact ext_refl _) | (with_reducible assumption) | (with_reducible refine ext_drew ?_) | (with_reducible refine ext_drewN ?_ _) | (with_reducible refine ext_alloc ?_ _) | (with_reducible refine ext_set ?_ (by first | omega | (simp <;> omega)) _) | (with_reducible refine ext_trans ?_ (by with_reducible assumption))))) (i64_small (by simp) (by simp)))).mono ?_); rintro e w3 ⟨rfl, hx3⟩; have hz3 := hx3.size; (try simp at hz3); have hb3 : w1.heap.size < w3.heap.size := (by omega); have hb3' : w2.heap.size < w3.heap.size := (by omega); have s0 := (hx3.cells (w1.heap.size) (0) (by first | omega | (simp <;> omega))).trans (show _ = some (.slice a1 2 c1) by first | assumption | go_simp); have s1 := (hx3.cells (w1.heap.size) (1) (by first | omega | (simp <;> omega))).trans (show _ = some (.slice none 0 0) by first | assumption | go_simp); have s2 := (hx3.cells (w2.heap.size) (0) (by first | omega | (simp <;> omega))).trans (show _ = some (.slice a2 1 c2) by first | assumption | go_simp); have s3 := (hx3.cells (w2.heap.size) (1) (by first | omega | (simp <;> omega))).trans (show _ = some (.int .i64 1) by first | assumption | go_simp)))
    | (go_at_call 23; go_must ((with_reducible refine (begun_at0 (rst_of (HV1.out.ext gAt (by repeat (first | (with_reducible exact ext_refl _) | (with_reducible assumption) | (with_reducible refine ext_drew ?_) | (with_reducible refine ext_drewN ?_ _) | (with_reducible refine ext_alloc ?_ _) | (with_reducible refine ext_set ?_ (by first | omega | (simp <;> omega)) _) | (with_reducible refine ext_trans ?_ (by with_reducible assumption))))) (RSl.nil_ (a := none) (Nat.zero_le _)))).mono ?_); rintro e w4 ⟨rfl, hx4⟩; have hz4 := hx4.size; (try simp at hz4); have hb4 : w1.heap.size < w4.heap.size := (by omega); have hb4' : w2.heap.size < w4.heap.size := (by omega); have t0 := (hx4.cells (w1.heap.size) (0) (by first | omega | (simp <;> omega))).trans (show _ = some (.slice a1 2 c1) by first | assumption | go_simp); have t1 := (hx4.cells (w1.heap.size) (1) (by first | omega | (simp <;> omega))).trans (show _ = some (.slice none 0 0) by first | assumption | go_simp); have t2 := (hx4.cells (w2.heap.size) (0) (by first | omega | (simp <;> omega))).trans (show _ = some (.slice a2 1 c2) by first | assumption | go_simp); have t3 := (hx4.cells (w2.heap.size) (1) (by first | omega | (simp <;> omega))).trans (show _ = some (.int .i64 1) by first | assumption | go_simp))))
  refine wp_name (fun w5 ew5 => ?_)
  have k0 : w5.cell? ⟨w2.heap.size, 0, none⟩ = some (.slice a2 1 c2) := by rw [ew5]; go_simp
  have k1 : w5.cell? ⟨w2.heap.size, 1, none⟩ = some (.int .i64 1) := by rw [ew5]; go_simp
  have zw5_0 : w2.heap.size < w5.heap.size := by rw [ew5]; first | assumption | omega | (simp <;> omega)
  have hw5 : Ext w2 w5 := by rw [ew5]; exact (by repeat (first | (with_reducible exact ext_refl _) | (with_reducible assumption) | (with_reducible refine ext_drew ?_) | (with_reducible refine ext_drewN ?_ _) | (with_reducible refine ext_alloc ?_ _) | (with_reducible refine ext_set ?_ (by first | omega | (simp <;> omega)) _) | (with_reducible refine ext_trans ?_ (by with_reducible assumption))))
  have HV5 := Lib.hid (HV2.out.ext gStp hw5)
  have hw55 : Ext w w5 := ext_trans (by repeat (first | (with_reducible exact ext_refl _) | (with_reducible assumption) | (with_reducible refine ext_drew ?_) | (with_reducible refine ext_drewN ?_ _) | (with_reducible refine ext_alloc ?_ _) | (with_reducible refine ext_set ?_ (by first | omega | (simp <;> omega)) _) | (with_reducible refine ext_trans ?_ (by with_reducible assumption)))) hw5
  clear ew5 hw5 hx1 hx2 hx3 hx4 HV2 HV1
  go_region_held3 (fun W => W.cell? ⟨w2.heap.size, 0, none⟩ = some (.slice a2 1 c2) ∧ W.cell? ⟨w2.heap.size, 1, none⟩ = some (.int .i64 1))
    (first | go_keep | (refine ⟨?_, ?_⟩ <;> (rw [hx7.cells _ _ (by first | omega | (simp <;> omega))]; first | assumption | go_simp)) | (refine ⟨?_, ?_⟩ <;> (rw [hx6.cells _ _ (by first | omega | (simp <;> omega))]; go_simp)))
    (first
    | go_at_call 63; ((with_reducible refine (at_any 3 0 1 (i64_small (by simp) (by simp)) (i64_small (by simp) (by simp)) (i64_small (by simp) (by simp)) _).mono ?_); rintro e w6 ⟨cs6, rfl, hm6, hx6⟩; obtain ⟨v6, rfl, hv6, hi6⟩ := hm6; obtain ⟨a6, n6, c6, rfl⟩ := hv6.slice; obtain rfl : n6 = 1 := hv6.len.1; have HV6 := Lib.hid hv6; clear hv6 hi6; have hz6 := hx6.size; (try simp at hz6); have hb6 : w2.heap.size < w6.heap.size := (by omega); have k20 := (hx6.cells w2.heap.size 0 (by first | omega | (simp <;> omega))).trans (show _ = some (.slice a2 1 c2) by first | assumption | go_simp); have k21 := (hx6.cells w2.heap.size 1 (by first | omega | (simp <;> omega))).trans (show _ = some (.int .i64 1) by first | assumption | go_simp))
    | (go_at_call 29; go_must ((with_reducible refine (begun_same3 (rmk_of' (c := 1) (HV5.out.ext gStp (by repeat (first | (with_reducible exact ext_refl _) | (with_reducible assumption) | (with_reducible refine ext_drew ?_) | (with_reducible refine ext_drewN ?_ _) | (with_reducible refine ext_alloc ?_ _) | (with_reducible refine ext_set ?_ (by first | omega | (simp <;> omega)) _) | (with_reducible refine ext_trans ?_ (by with_reducible assumption))))) (i64_small (by simp) (by simp))) (rmk_of' (c := 1) (HV6.out.ext gStp (by repeat (first | (with_reducible exact ext_refl _) | (with_reducible assumption) | (with_reducible refine ext_drew ?_) | (with_reducible refine ext_drewN ?_ _) | (with_reducible refine ext_alloc ?_ _) | (with_reducible refine ext_set ?_ (by first | omega | (simp <;> omega)) _) | (with_reducible refine ext_trans ?_ (by with_reducible assumption))))) (i64_small (by simp) (by simp)))).mono ?_); rintro e w7 ⟨rfl, hx7⟩; have hz7 := hx7.size; (try simp at hz7); have hb7 : w2.heap.size < w7.heap.size := (by omega))))
  all_goals go_wp2_with fail
  all_goals go_ret
  all_goals exact ⟨rfl, (by repeat (first | (with_reducible exact ext_refl _) | (with_reducible assumption) | (with_reducible refine ext_drew ?_) | (with_reducible refine ext_drewN ?_ _) | (with_reducible refine ext_alloc ?_ _) | (with_reducible refine ext_set ?_ (by first | omega | (simp <;> omega)) _) | (with_reducible refine ext_trans ?_ (by with_reducible assumption))))⟩
end Go.Proofs.Ythkhkbjkbpgaoaa
