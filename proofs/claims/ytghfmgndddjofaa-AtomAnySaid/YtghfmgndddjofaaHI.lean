/- Two atoms. -/
import Derived.Test.YtghfmgndddjofaaA0
import Derived.Test.YtghfmgndddjofaaW8
import Derived.Test.YtghfmgndddjofaaAT
set_option linter.unusedVariables false
set_option linter.unusedSimpArgs false
namespace Go.Proofs.Ytghfmgndddjofaa
open Go Go.RowKit Go.BigFrame Cp

def IsAtoms (l : List At) (w : World) (e : Ending) (w' : World) : Prop := ∃ v, e = .returned v ∧ RSl RAt 3 (fun k => w.heap.size ≤ k) w' v l ∧ Ext w w'
def hiL : List At := [(([(3, 0)], 1), 104), (([(4, 0)], 2), 105)]
theorem rangeAt_app {w : World} {b o : Nat} {xs ys : List Value} (h : w.rangeAt b o xs) (k : w.rangeAt b (o + xs.length) ys) : w.rangeAt b o (xs ++ ys) := by
  intro j v hv
  by_cases hj : j < xs.length
  · rw [List.getElem?_append_left hj] at hv; exact h j v hv
  · rw [List.getElem?_append_right (by omega)] at hv
    have := k _ v hv
    rwa [show o + xs.length + (j - xs.length) = o + j by omega] at this
theorem atoms_two {F : Nat → Prop} {W : World} {r : Nat} {v1 v2 : Value} {p1 p2 : List Stp} {c1 c2 : Int} {s1 s2 : UInt8} (h1 : RSl RStp 2 F W v1 p1) (h2 : RSl RStp 2 F W v2 p2) (i1 : I64 c1) (i2 : I64 c2)
    (z0 : W.cell? ⟨r, 0, none⟩ = some v1) (z1 : W.cell? ⟨r, 1, none⟩ = some (.int .i64 c1)) (z2 : W.cell? ⟨r, 2, none⟩ = some (.int .u8 s1.toNat))
    (z3 : W.cell? ⟨r, 3, none⟩ = some v2) (z4 : W.cell? ⟨r, 4, none⟩ = some (.int .i64 c2)) (z5 : W.cell? ⟨r, 5, none⟩ = some (.int .u8 s2.toNat)) (hF : F r) (hr : r < W.heap.size) :
    RSl RAt 3 F W (.slice (some ⟨r, 0, none⟩) 2 2) [((p1, c1), s1), ((p2, c2), s2)] :=
  rsl_of_range (rangeAt_app (rangeAt3 z0 z1 z2) (rangeAt3 z3 z4 z5)) (chunks_app (R := RAt) (sz := 3) (F := F) (w := W) (chunks_one (x := ((p1, c1), s1)) rfl ⟨_, rfl, h1, i1⟩) (chunks_one (x := ((p2, c2), s2)) rfl ⟨_, rfl, h2, i2⟩)) hF hr (Nat.le_refl _) (by unfold maxLen; omega)
/-- two atoms in a row of two -/
def IsHi (w : World) (e : Ending) (w' : World) : Prop := ∃ g, e = .returned (.slice (some ⟨g, 0, none⟩) 2 2) ∧ RSl RAt 3 (fun k => w.heap.size ≤ k) w' (.slice (some ⟨g, 0, none⟩) 2 2) hiL ∧ Ext w w'
set_option maxRecDepth 100000 in
set_option maxHeartbeats 4000000 in
theorem hi_two (w : World) : Calls Try.prog 93 #[] w (IsHi w) := by
  go_enter Try.func93, Try.ntmps93
  go_wp2_with (first
    | (go_at_call 94; ((with_reducible refine (at_any 3 0 1 (i64_small (by simp) (by simp)) (i64_small (by simp) (by simp)) (i64_small (by simp) (by simp)) _).mono ?_); rintro e w1 ⟨cs1, rfl, hm1, hx1⟩; obtain ⟨v1, rfl, hv1, hi1⟩ := hm1; obtain ⟨a1, n1, c1, rfl⟩ := hv1.slice; obtain rfl : n1 = 1 := hv1.len.1; have HV1 := Lib.hid hv1; clear hv1 hi1; have hz1 := hx1.size))
    | (go_at_call 94; ((with_reducible refine (at_any 4 0 2 (i64_small (by simp) (by simp)) (i64_small (by simp) (by simp)) (i64_small (by simp) (by simp)) _).mono ?_); rintro e w2 ⟨cs2, rfl, hm2, hx2⟩; obtain ⟨v2, rfl, hv2, hi2⟩ := hm2; obtain ⟨a2, n2, c2, rfl⟩ := hv2.slice; obtain rfl : n2 = 1 := hv2.len.1; have HV2 := Lib.hid hv2; clear hv2 hi2; have hz2 := hx2.size)))
  go_ret
  exact ⟨_, rfl, atoms_two (c1 := 1) (c2 := 2) (s1 := 104) (s2 := 105) (RSl.more gStp (fun k hk _ => (show w.heap.size ≤ k by omega)) (HV1.out.ext gStp (by repeat (first | (with_reducible exact ext_refl _) | (with_reducible assumption) | (with_reducible refine ext_drew ?_) | (with_reducible refine ext_drewN ?_ _) | (with_reducible refine ext_alloc ?_ _) | (with_reducible refine ext_set ?_ (by first | omega | (simp <;> omega)) _) | (with_reducible refine ext_trans ?_ (by with_reducible assumption)))))) (RSl.more gStp (fun k hk _ => (show w.heap.size ≤ k by omega)) (HV2.out.ext gStp (by repeat (first | (with_reducible exact ext_refl _) | (with_reducible assumption) | (with_reducible refine ext_drew ?_) | (with_reducible refine ext_drewN ?_ _) | (with_reducible refine ext_alloc ?_ _) | (with_reducible refine ext_set ?_ (by first | omega | (simp <;> omega)) _) | (with_reducible refine ext_trans ?_ (by with_reducible assumption)))))) (i64_small (by simp) (by simp)) (i64_small (by simp) (by simp)) (by go_simp) (by go_simp) (by go_simp) (by go_simp) (by go_simp) (by go_simp) (by first | omega | (simp <;> omega)) (by first | omega | (simp <;> omega)), (by repeat (first | (with_reducible exact ext_refl _) | (with_reducible assumption) | (with_reducible refine ext_drew ?_) | (with_reducible refine ext_drewN ?_ _) | (with_reducible refine ext_alloc ?_ _) | (with_reducible refine ext_set ?_ (by first | omega | (simp <;> omega)) _) | (with_reducible refine ext_trans ?_ (by with_reducible assumption))))⟩
theorem hi_any (w : World) : Calls Try.prog 93 #[] w (IsAtoms hiL w) := (hi_two w).mono fun _ _ ⟨_, h1, h2, h3⟩ => ⟨_, h1, h2, h3⟩
end Go.Proofs.Ytghfmgndddjofaa
