/- What is wrong with a mark. -/
import Derived.Test.YtghfmgndddjofaaW1
set_option linter.unusedVariables false
set_option linter.unusedSimpArgs false
namespace Go.Proofs.Ytghfmgndddjofaa
open Go Go.RowKit Cp

theorem badS_in (x y : Int) : badS (x, y) = (!inB x 0 200 || !inB y 0 4) := rfl
theorem lastDigit_at {l : List Stp} {x y : Int} (h : l[l.length - 1]? = some (x, y)) : lastDigit l = x := by
  unfold lastDigit
  rw [List.getLast?_eq_getElem?, h]; rfl
theorem lastSite_at {l : List Stp} {x y : Int} (h : l[l.length - 1]? = some (x, y)) : lastSite l = y := by
  unfold lastSite
  rw [List.getLast?_eq_getElem?, h]; rfl
theorem any_step {l : List Stp} {k : Nat} {s : Stp} (h : l[k]? = some s) : (l.take (k + 1)).any badS = ((l.take k).any badS || badS s) := by
  obtain ⟨a1, b1⟩ := List.getElem?_eq_some_iff.1 h
  rw [List.take_succ_eq_append_getElem a1, List.any_append, b1]; simp
theorem any_of_take {l : List Stp} {k : Nat} (h : (l.take k).any badS = true) : l.any badS = true := by
  rw [← List.take_append_drop k l, List.any_append, h]; rfl
theorem checkM_many {l : List Stp} {c : Int} (h : 10 < l.length) : checkM (l, c) = 2 := by unfold checkM; rw [if_pos h]
theorem checkM_nil {l : List Stp} {c : Int} (h : l.length = 0) : checkM (l, c) = 1 := by
  have : l = [] := by simpa using h
  subst this; rfl
theorem checkM_bad {l : List Stp} {c : Int} (h1 : ¬ 10 < l.length) (h2 : l.length ≠ 0) (h : l.any badS = true) : checkM (l, c) = 3 := by
  unfold checkM; rw [if_neg h1, if_neg (fun e => h2 (by simp at e; simp [e])), if_pos h]
theorem checkM_end {l : List Stp} {c : Int} (h1 : ¬ 10 < l.length) (h2 : l.length ≠ 0) (h : l.any badS = false) : checkM (l, c) = if lastDigit l = 0 ∨ inB c 1 10000 = false then 3 else 0 := by
  unfold checkM
  rw [if_neg h1, if_neg (fun e => h2 (by simp at e; simp [e])), if_neg (by rw [h]; simp)]
  unfold inB
  simp only [Bool.and_eq_false_iff, decide_eq_false_iff_not]
  congr 1
  apply propext
  omega

theorem none_any {F : Nat → Prop} {w : World} {cs : List Value} {m : Mk} (h : RMk F w cs m) :
    Calls Try.prog 102 #[.agg cs.toArray] w fun e w' => e = .returned (.bool (noneM m)) ∧ Ext w w' := by
  obtain ⟨v, rfl, hl, _⟩ := h
  obtain ⟨l, c⟩ := m
  simp only at hl ⊢
  obtain ⟨a1, n1, c1, rfl⟩ := hl.slice
  obtain ⟨rfl, _, _⟩ := hl.len
  clear hl
  by_cases h0 : l.length = 0
  · have e1 : noneM (l, c) = (c == 0) := by
      have : l = [] := by simpa using h0
      subst this; unfold noneM; simp; rfl
    have t1 : ((l.length : Int) == 0) = true := by rw [beq_iff_eq]; omega
    rw [e1]
    clear e1 h0
    go_enter Try.func102, Try.ntmps102
    go_wp2
    go_ret
    exact ⟨rfl, ext_alloc (ext_refl _) _⟩
  · have e1 : noneM (l, c) = false := by
      unfold noneM; cases l with
      | nil => simp at h0
      | cons a r => rfl
    have t1 : ((l.length : Int) == 0) = false := by rw [beq_eq_false_iff_ne]; omega
    rw [e1]
    clear e1 h0
    go_enter Try.func102, Try.ntmps102
    go_wp2
    go_ret
    exact ⟨rfl, ext_alloc (ext_refl _) _⟩
theorem noneP_any {F : Nat → Prop} {w : World} {cs : List Value} {m : Mk} (h : RMk F w cs m) :
    Calls Try.prog 112 #[.agg cs.toArray] w fun e w' => e = .returned (.bool (noneM m)) ∧ Ext w w' := by
  obtain ⟨v, rfl, hl, _⟩ := h
  obtain ⟨l, c⟩ := m
  simp only at hl ⊢
  obtain ⟨a1, n1, c1, rfl⟩ := hl.slice
  obtain ⟨rfl, _, _⟩ := hl.len
  clear hl
  by_cases h0 : l.length = 0
  · have e1 : noneM (l, c) = (c == 0) := by
      have : l = [] := by simpa using h0
      subst this; unfold noneM; simp; rfl
    have t1 : ((l.length : Int) == 0) = true := by rw [beq_iff_eq]; omega
    rw [e1]
    clear e1 h0
    go_enter Try.func112, Try.ntmps112
    go_wp2
    go_ret
    exact ⟨rfl, ext_alloc (ext_refl _) _⟩
  · have e1 : noneM (l, c) = false := by
      unfold noneM; cases l with
      | nil => simp at h0
      | cons a r => rfl
    have t1 : ((l.length : Int) == 0) = false := by rw [beq_eq_false_iff_ne]; omega
    rw [e1]
    clear e1 h0
    go_enter Try.func112, Try.ntmps112
    go_wp2
    go_ret
    exact ⟨rfl, ext_alloc (ext_refl _) _⟩

set_option maxRecDepth 100000 in
set_option maxHeartbeats 800000 in
theorem checkMark_any {F : Nat → Prop} {w : World} {cs : List Value} {m : Mk} (h : RMk F w cs m) :
    Calls Try.prog 89 #[.agg cs.toArray] w fun e w' => e = .returned (.int .i64 (checkM m)) ∧ Ext w w' := by
  obtain ⟨v, rfl, hl, _⟩ := h
  obtain ⟨l, c⟩ := m
  simp only at hl ⊢
  obtain ⟨a1, n1, c1, rfl⟩ := hl.slice
  obtain ⟨rfl, k1, k1'⟩ := hl.len
  unfold maxLen at k1'
  have q1 : l.length ≤ 9223372036854775807 := by omega
  clear k1 k1'
  have HL := Lib.hid hl
  clear hl
  by_cases hm : 10 < l.length
  · rw [checkM_many hm]
    go_enter Try.func89, Try.ntmps89
    go_wp2
    go_ret
    exact ⟨rfl, ext_alloc (ext_refl _) _⟩
  by_cases h0 : l.length = 0
  · rw [checkM_nil h0]
    have t1 : ((l.length : Int) == 0) = true := by rw [beq_iff_eq]; omega
    clear h0
    go_enter Try.func89, Try.ntmps89
    go_wp2
    go_ret
    exact ⟨rfl, ext_alloc (ext_refl _) _⟩
  have t1 : ((l.length : Int) == 0) = false := by rw [beq_eq_false_iff_ne]; omega
  have H0 := Lib.hid h0
  have hp : 0 < l.length := by omega
  clear h0
  go_enter Try.func89, Try.ntmps89
  go_wp2
  go_loopw [4] (fun i wr => ∃ k : Nat, k ≤ l.length ∧ i = .int .i64 k ∧ Hid ((l.take k).any badS = false) ∧ Ext (w.alloc (.cells #[.slice a1 l.length c1, .int .i64 c] 75)) wr) (fun i _ => l.length - (intOf i).toNat)
  case atStart => exact ⟨0, by omega, rfl, Lib.hid (by simp), ext_refl _⟩
  case round =>
    obtain ⟨k, hk1, rfl, ho, hx⟩ := hrel
    have hw : Ext w wr := ext_trans (ext_alloc (ext_refl _) _) hx
    have z1 : wr.cell? ⟨w.heap.size, 0, none⟩ = some (.slice a1 l.length c1) := (hx.cells _ _ (by simp <;> omega)).trans (by go_simp)
    have z2 : wr.cell? ⟨w.heap.size, 1, none⟩ = some (.int .i64 c) := (hx.cells _ _ (by simp <;> omega)).trans (by go_simp)
    have HX := Lib.hid hx
    have HW := Lib.hid hw
    clear hx hw
    by_cases h1 : k < l.length
    · obtain ⟨b1, o1, x1, y1, rfl, hb1, e1, _, _, ca, cb⟩ := stp_at (HL.out.ext gStp HW.out) h1
      have HA := Lib.hid (any_step e1)
      clear e1 hb1
      have HB := Lib.hid (badS_in x1 y1)
      cases g1 : inB x1 0 200 with
      | false =>
        have HC := Lib.hid (checkM_bad (c := c) hm H0.out (any_of_take (k := k + 1) (by rw [HA.out, ho.out, HB.out, g1]; rfl)))
        go_wp2_with (go_at_call 54; refine (between_any _ _ _ _).mono ?_; rintro e w1 ⟨rfl, rfl⟩)
        go_ret
        exact ⟨ri HC.out.symm, HW.out⟩
      | true =>
        cases g2 : inB y1 0 4 with
        | false =>
          have HC := Lib.hid (checkM_bad (c := c) hm H0.out (any_of_take (k := k + 1) (by rw [HA.out, ho.out, HB.out, g1, g2]; rfl)))
          go_wp2_with (go_at_call 54; refine (between_any _ _ _ _).mono ?_; rintro e w1 ⟨rfl, rfl⟩)
          go_ret
          exact ⟨ri HC.out.symm, HW.out⟩
        | true =>
          have HD := Lib.hid (show (l.take (k + 1)).any badS = false by rw [HA.out, ho.out, HB.out, g1, g2]; rfl)
          go_wp2_with (go_at_call 54; refine (between_any _ _ _ _).mono ?_; rintro e w1 ⟨rfl, rfl⟩)
          go_roundw
          case rel => exact ⟨k + 1, by omega, by go_num, HD, HX.out⟩
          case measure => simp [intOf]; omega
    · have hk : k = l.length := by omega
      subst hk
      have ho' := ho.out
      rw [List.take_of_length_le (Nat.le_refl _)] at ho'
      have HC := Lib.hid (checkM_end (c := c) hm H0.out ho')
      clear ho ho'
      have hlast : l.length - 1 < l.length := by omega
      obtain ⟨b1, o1, x1, y1, rfl, hb1, e1, _, _, ca, cb⟩ := stp_at (HL.out.ext gStp HW.out) hlast
      have HLD := Lib.hid (lastDigit_at e1)
      clear e1 hb1
      by_cases hx1 : x1 = 0
      · have t2 : (x1 == 0) = true := by rw [beq_iff_eq]; exact hx1
        have HX1 := Lib.hid hx1
        clear hx1
        go_wp2_with (go_at_call 54; refine (between_any _ _ _ _).mono ?_; rintro e w1 ⟨rfl, rfl⟩)
        go_ret
        exact ⟨ri (by rw [HC.out, if_pos (.inl (HLD.out.trans HX1.out))]), HW.out⟩
      · have t2 : (x1 == 0) = false := by rw [beq_eq_false_iff_ne]; exact hx1
        have HX1 := Lib.hid hx1
        clear hx1
        cases g1 : inB c 1 10000 with
        | false =>
          go_wp2_with (go_at_call 54; refine (between_any _ _ _ _).mono ?_; rintro e w1 ⟨rfl, rfl⟩)
          go_ret
          exact ⟨ri (by rw [HC.out, if_pos (.inr g1)]), HW.out⟩
        | true =>
          go_wp2_with (go_at_call 54; refine (between_any _ _ _ _).mono ?_; rintro e w1 ⟨rfl, rfl⟩)
          go_ret
          exact ⟨ri (by rw [HC.out, if_neg (by rw [HLD.out, g1]; simp [HX1.out])]), HW.out⟩
end Go.Proofs.Ytghfmgndddjofaa
