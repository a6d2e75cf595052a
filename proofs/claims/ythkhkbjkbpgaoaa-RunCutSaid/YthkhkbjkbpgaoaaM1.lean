/- What must be in any case, of marks. -/
import Derived.Test.YthkhkbjkbpgaoaaW19
import Derived.Test.YthkhkbjkbpgaoaaW10
set_option linter.unusedVariables false
set_option linter.unusedSimpArgs false
namespace Go.Proofs.Ythkhkbjkbpgaoaa
open Go Go.RowKit Go.BigFrame Cp

theorem rmk_of {F : Nat → Prop} {w : World} {v : Value} {l : List Stp} {c : Int} (h : RSl RStp 2 F w v l) (i : I64 c) : RMk F w [v, .int .i64 c] (l, c) := ⟨v, rfl, h, i⟩
theorem begun_next {F : Nat → Prop} {w : World} {cs : List Value} (h : RMk F w cs ([(3, 0)], 1)) : Calls Try.prog 30 #[.agg cs.toArray, .int .i64 1] w (IsMarkE ([(4, 0)], 2) 0 w) := by
  have h1 := next_any (k := 1) h
  have e : nextM ([(3, 0)], 1) 1 = (([(4, 0)], 2), 0) := by decide
  rw [e] at h1
  exact h1
theorem begun_ok : betweenErr ([(3, 0)], 1) ([(4, 0)], 2) 2 7 2 = 0 := by decide
/-- marks that are right between the two -/
def IsBegunL (w : World) (e : Ending) (w' : World) : Prop := ∃ v l, e = .returned (.tuple #[v, .int .i64 0]) ∧ isBetweenB ([(3, 0)], 1) ([(4, 0)], 2) 2 7 2 l = true ∧ RSl RMk 2 (fun k => w.heap.size ≤ k) w' v l ∧ Ext w w'
theorem begun_marks {F G : Nat → Prop} {w : World} {cs ds : List Value} (ha : RMk F w cs ([(3, 0)], 1)) (hb : RMk G w ds ([(4, 0)], 2)) :
    Calls Try.prog 36 #[.agg cs.toArray, .agg ds.toArray, .int .i64 2, .int .i64 7, .int .i64 2] w (IsBegunL w) := by
  refine (marks_any (site := 2) (clock := 7) (many := 2) ha hb (i64_small (by simp) (by simp)) (i64_small (by simp) (by simp))).mono ?_
  rintro e w' ⟨v, rfl, hv, hx⟩
  rw [if_pos begun_ok] at hv
  rw [begun_ok]
  exact ⟨v, _, rfl, between_is begun_ok, hv, hx⟩
theorem begun_check {F : Nat → Prop} {w : World} {cs : List Value} (h : RMk F w cs ([(3, 0)], 1)) : Calls Try.prog 33 #[.agg cs.toArray] w fun e w' => e = .returned (.int .i64 0) ∧ Ext w w' := by
  have h1 := check_any h
  have e : checkM ([(3, 0)], 1) = 0 := by decide
  rw [e] at h1
  exact h1
theorem begun_order {F G : Nat → Prop} {w : World} {cs ds : List Value} (ha : RMk F w cs ([(3, 0)], 1)) (hb : RMk G w ds ([(4, 0)], 2)) : Calls Try.prog 34 #[.agg cs.toArray, .agg ds.toArray] w fun e w' => e = .returned (.int .i64 (-1)) ∧ Ext w w' := by
  have h1 := order_any ha hb
  have e : ordM ([(3, 0)], 1) ([(4, 0)], 2) = -1 := by decide
  rw [e] at h1
  exact h1
theorem begun_same {F G : Nat → Prop} {w : World} {cs ds : List Value} (ha : RMk F w cs ([(4, 0)], 2)) (hb : RMk G w ds ([(4, 0)], 2)) : Calls Try.prog 29 #[.agg cs.toArray, .agg ds.toArray] w fun e w' => e = .returned (.bool true) ∧ Ext w w' := by
  have h1 := same_any ha hb
  have e : (ordM ([(4, 0)], 2) ([(4, 0)], 2) == 0) = true := by decide
  rw [e] at h1
  exact h1
theorem begun_is {F G H : Nat → Prop} {w : World} {cs ds : List Value} {v : Value} {l : List Mk} (ha : RMk F w cs ([(3, 0)], 1)) (hb : RMk G w ds ([(4, 0)], 2)) (hl : RSl RMk 2 H w v l) (h : isBetweenB ([(3, 0)], 1) ([(4, 0)], 2) 2 7 2 l = true) :
    Calls Try.prog 38 #[.agg cs.toArray, .agg ds.toArray, .int .i64 2, .int .i64 7, .int .i64 2, v] w fun e w' => e = .returned (.bool true) ∧ Ext w w' :=
  isBetween_any ha hb hl h (by omega) (by omega) (by simp) (by simp)

set_option maxRecDepth 100000 in
set_option maxHeartbeats 4000000 in
theorem markBegun_any (w : World) : Calls Try.prog 32 #[] w fun e w' => e = .returned (.bool true) ∧ Ext w w' := by
  go_enter Try.func32, Try.ntmps32
  go_wp2_with (first
    | (go_at_call 63; (((with_reducible refine (at_any 3 0 1 (i64_small (by simp) (by simp)) (i64_small (by simp) (by simp)) (i64_small (by simp) (by simp)) _).mono ?_); rintro e w1 ⟨cs1, rfl, hm1, hx1⟩; obtain ⟨v1, rfl, hv1, hi1⟩ := hm1; obtain ⟨a1, n1, c1, rfl⟩ := hv1.slice; obtain rfl : n1 = 1 := hv1.len.1; have HV1 := Lib.hid hv1; clear hv1 hi1; have hz1 := hx1.size)))
    | (go_at_call 63; (((with_reducible refine (at_any 4 0 2 (i64_small (by simp) (by simp)) (i64_small (by simp) (by simp)) (i64_small (by simp) (by simp)) _).mono ?_); rintro e w2 ⟨cs2, rfl, hm2, hx2⟩; obtain ⟨v2, rfl, hv2, hi2⟩ := hm2; obtain ⟨a2, n2, c2, rfl⟩ := hv2.slice; obtain rfl : n2 = 1 := hv2.len.1; have HV2 := Lib.hid hv2; clear hv2 hi2; have hz2 := hx2.size)))
    | (go_at_call 30; go_must (((with_reducible refine (begun_next (cs := [.slice a1 1 c1, .int .i64 1]) (rmk_of (HV1.out.ext gStp (by repeat (first | (with_reducible exact ext_refl _) | (with_reducible assumption) | (with_reducible refine ext_drew ?_) | (with_reducible refine ext_drewN ?_ _) | (with_reducible refine ext_alloc ?_ _) | (with_reducible refine ext_set ?_ (by first | omega | (simp <;> omega)) _) | (with_reducible refine ext_trans ?_ (by with_reducible assumption))))) (i64_small (by simp) (by simp)))).mono ?_); rintro e w3 ⟨cs3, rfl, hm3, hx3⟩; obtain ⟨v3, rfl, hv3, hi3⟩ := hm3; obtain ⟨a3, n3, c3, rfl⟩ := hv3.slice; obtain rfl : n3 = 1 := hv3.len.1; have HV3 := Lib.hid hv3; clear hv3 hi3; have hc3 := hx3.cells; have hz3 := hx3.size; (try simp at hz3); have hb3_0 : w2.heap.size < w3.heap.size := (by omega); have hb3_1 : w2.heap.size + 1 < w3.heap.size := (by omega))))
    | (go_at_call 36; go_must (((with_reducible refine (begun_marks (cs := [.slice a1 1 c1, .int .i64 1]) (ds := [.slice a2 1 c2, .int .i64 2]) (rmk_of (HV1.out.ext gStp (by repeat (first | (with_reducible exact ext_refl _) | (with_reducible assumption) | (with_reducible refine ext_drew ?_) | (with_reducible refine ext_drewN ?_ _) | (with_reducible refine ext_alloc ?_ _) | (with_reducible refine ext_set ?_ (by first | omega | (simp <;> omega)) _) | (with_reducible refine ext_trans ?_ (by with_reducible assumption))))) (i64_small (by simp) (by simp))) (rmk_of (HV2.out.ext gStp (by repeat (first | (with_reducible exact ext_refl _) | (with_reducible assumption) | (with_reducible refine ext_drew ?_) | (with_reducible refine ext_drewN ?_ _) | (with_reducible refine ext_alloc ?_ _) | (with_reducible refine ext_set ?_ (by first | omega | (simp <;> omega)) _) | (with_reducible refine ext_trans ?_ (by with_reducible assumption))))) (i64_small (by simp) (by simp)))).mono ?_); rintro e w4 ⟨v4, l4, rfl, hl4, hv4, hx4⟩; obtain ⟨a4, n4, c4, rfl⟩ := hv4.slice; have HL4 := Lib.hid hl4; have HV4 := Lib.hid hv4; clear hl4 hv4; have hc4 := hx4.cells; have hz4 := hx4.size; (try simp at hz4); have hb4_0 : w2.heap.size < w4.heap.size := (by omega); have hb4_1 : w2.heap.size + 1 < w4.heap.size := (by omega); have hb4_2 : w3.heap.size < w4.heap.size := (by omega))))
    | (go_at_call 33; go_must (((with_reducible refine (begun_check (cs := [.slice a1 1 c1, .int .i64 1]) (rmk_of (HV1.out.ext gStp (by repeat (first | (with_reducible exact ext_refl _) | (with_reducible assumption) | (with_reducible refine ext_drew ?_) | (with_reducible refine ext_drewN ?_ _) | (with_reducible refine ext_alloc ?_ _) | (with_reducible refine ext_set ?_ (by first | omega | (simp <;> omega)) _) | (with_reducible refine ext_trans ?_ (by with_reducible assumption))))) (i64_small (by simp) (by simp)))).mono ?_); rintro e w5 ⟨rfl, hx5⟩; have hc5 := hx5.cells; have hz5 := hx5.size; (try simp at hz5); have hb5_0 : w2.heap.size < w5.heap.size := (by omega); have hb5_1 : w2.heap.size + 1 < w5.heap.size := (by omega); have hb5_2 : w3.heap.size < w5.heap.size := (by omega))))
    | (go_at_call 34; go_must (((with_reducible refine (begun_order (cs := [.slice a1 1 c1, .int .i64 1]) (ds := [.slice a2 1 c2, .int .i64 2]) (rmk_of (HV1.out.ext gStp (by repeat (first | (with_reducible exact ext_refl _) | (with_reducible assumption) | (with_reducible refine ext_drew ?_) | (with_reducible refine ext_drewN ?_ _) | (with_reducible refine ext_alloc ?_ _) | (with_reducible refine ext_set ?_ (by first | omega | (simp <;> omega)) _) | (with_reducible refine ext_trans ?_ (by with_reducible assumption))))) (i64_small (by simp) (by simp))) (rmk_of (HV2.out.ext gStp (by repeat (first | (with_reducible exact ext_refl _) | (with_reducible assumption) | (with_reducible refine ext_drew ?_) | (with_reducible refine ext_drewN ?_ _) | (with_reducible refine ext_alloc ?_ _) | (with_reducible refine ext_set ?_ (by first | omega | (simp <;> omega)) _) | (with_reducible refine ext_trans ?_ (by with_reducible assumption))))) (i64_small (by simp) (by simp)))).mono ?_); rintro e w6 ⟨rfl, hx6⟩; have hc6 := hx6.cells; have hz6 := hx6.size; (try simp at hz6); have hb6_0 : w2.heap.size < w6.heap.size := (by omega); have hb6_1 : w2.heap.size + 1 < w6.heap.size := (by omega); have hb6_2 : w3.heap.size < w6.heap.size := (by omega))))
    | (go_at_call 29; go_must (((with_reducible refine (begun_same (cs := [.slice a3 1 c3, .int .i64 2]) (ds := [.slice a2 1 c2, .int .i64 2]) (rmk_of (HV3.out.ext gStp (by repeat (first | (with_reducible exact ext_refl _) | (with_reducible assumption) | (with_reducible refine ext_drew ?_) | (with_reducible refine ext_drewN ?_ _) | (with_reducible refine ext_alloc ?_ _) | (with_reducible refine ext_set ?_ (by first | omega | (simp <;> omega)) _) | (with_reducible refine ext_trans ?_ (by with_reducible assumption))))) (i64_small (by simp) (by simp))) (rmk_of (HV2.out.ext gStp (by repeat (first | (with_reducible exact ext_refl _) | (with_reducible assumption) | (with_reducible refine ext_drew ?_) | (with_reducible refine ext_drewN ?_ _) | (with_reducible refine ext_alloc ?_ _) | (with_reducible refine ext_set ?_ (by first | omega | (simp <;> omega)) _) | (with_reducible refine ext_trans ?_ (by with_reducible assumption))))) (i64_small (by simp) (by simp)))).mono ?_); rintro e w7 ⟨rfl, hx7⟩; have hc7 := hx7.cells; have hz7 := hx7.size; (try simp at hz7); have hb7_0 : w2.heap.size < w7.heap.size := (by omega); have hb7_1 : w2.heap.size + 1 < w7.heap.size := (by omega); have hb7_2 : w3.heap.size < w7.heap.size := (by omega))))
    | (go_at_call 38; go_must (((with_reducible refine (begun_is (cs := [.slice a1 1 c1, .int .i64 1]) (ds := [.slice a2 1 c2, .int .i64 2]) (rmk_of (HV1.out.ext gStp (by repeat (first | (with_reducible exact ext_refl _) | (with_reducible assumption) | (with_reducible refine ext_drew ?_) | (with_reducible refine ext_drewN ?_ _) | (with_reducible refine ext_alloc ?_ _) | (with_reducible refine ext_set ?_ (by first | omega | (simp <;> omega)) _) | (with_reducible refine ext_trans ?_ (by with_reducible assumption))))) (i64_small (by simp) (by simp))) (rmk_of (HV2.out.ext gStp (by repeat (first | (with_reducible exact ext_refl _) | (with_reducible assumption) | (with_reducible refine ext_drew ?_) | (with_reducible refine ext_drewN ?_ _) | (with_reducible refine ext_alloc ?_ _) | (with_reducible refine ext_set ?_ (by first | omega | (simp <;> omega)) _) | (with_reducible refine ext_trans ?_ (by with_reducible assumption))))) (i64_small (by simp) (by simp))) (HV4.out.ext gMk (by repeat (first | (with_reducible exact ext_refl _) | (with_reducible assumption) | (with_reducible refine ext_drew ?_) | (with_reducible refine ext_drewN ?_ _) | (with_reducible refine ext_alloc ?_ _) | (with_reducible refine ext_set ?_ (by first | omega | (simp <;> omega)) _) | (with_reducible refine ext_trans ?_ (by with_reducible assumption))))) HL4.out).mono ?_); rintro e w8 ⟨rfl, hx8⟩))))
  go_ret
  exact ⟨rfl, (by repeat (first | (with_reducible exact ext_refl _) | (with_reducible assumption) | (with_reducible refine ext_drew ?_) | (with_reducible refine ext_drewN ?_ _) | (with_reducible refine ext_alloc ?_ _) | (with_reducible refine ext_set ?_ (by first | omega | (simp <;> omega)) _) | (with_reducible refine ext_trans ?_ (by with_reducible assumption))))⟩
end Go.Proofs.Ythkhkbjkbpgaoaa
