/- SeenLeast and SeenJoins: the walks. -/
import Derived.Test.YtghfmgndddjofaaN7
set_option linter.unusedVariables false
set_option linter.unusedSimpArgs false
namespace Go.Proofs.Ytghfmgndddjofaa
open Go Go.RowKit Go.BigFrame Cp

theorem atI_mem {l : List Int} (h : l.length = 5) {i : Nat} (hi : i < 5) : atI l i ∈ l := by
  unfold atI
  rw [List.getElem?_eq_getElem (by omega)]
  exact List.getElem_mem _
theorem atI_join {l m : List Int} {i : Nat} (hi : i < 5) : atI (joinI l m) i = maxI (atI l i) (atI m i) := by
  show ((rowL _ 5)[i]?).getD 0 = _
  rw [rowL_get hi]; rfl
theorem join_len (l m : List Int) : (joinI l m).length = 5 := rowL_len _ _
theorem eq_of_at {l m : List Int} (h : l.length = 5) (k : m.length = 5) (e : ∀ i, i < 5 → atI l i = atI m i) : l = m := by
  rw [row_ofI h, row_ofI k]
  exact row_same e
theorem check_join {l m : List Int} (h : checkI l = 0) (k : checkI m = 0) : checkI (joinI l m) = 0 := by
  obtain ⟨h1, h2⟩ := checkI_five h
  obtain ⟨k1, k2⟩ := checkI_five k
  refine checkI_ok (join_len l m) ?_
  rw [List.any_eq_false] at h2 k2 ⊢
  intro x hx
  obtain ⟨i, hi, e⟩ := List.mem_iff_getElem.1 hx
  have hi5 : i < 5 := by rw [join_len] at hi; exact hi
  have h3 : x = maxI (atI l i) (atI m i) := by
    rw [← atI_join hi5]
    unfold atI
    rw [List.getElem?_eq_getElem hi, e]; rfl
  rw [h3]
  unfold maxI
  split
  · exact k2 _ (atI_mem k1 hi5)
  · exact h2 _ (atI_mem h1 hi5)
theorem least_iff {l m : List Int} : leastI l m = true ↔ ∀ i, i < 5 → atI m i ≤ atI l i := by
  unfold leastI
  rw [List.all_eq_true]
  exact ⟨fun h i hi => of_decide_eq_true (h i (List.mem_range.2 hi)), fun h i hi => decide_eq_true (h i (List.mem_range.1 hi))⟩
theorem maxI_l (a b : Int) : a ≤ maxI a b := by unfold maxI; split <;> omega
theorem maxI_r (a b : Int) : b ≤ maxI a b := by unfold maxI; split <;> omega
theorem maxI_le {a b c : Int} : maxI a b ≤ c ↔ a ≤ c ∧ b ≤ c := by unfold maxI; split <;> omega
theorem least_l (l m : List Int) : leastI (joinI l m) l = true := least_iff.2 (fun i hi => by rw [atI_join hi]; exact maxI_l _ _)
theorem least_r (l m : List Int) : leastI (joinI l m) m = true := least_iff.2 (fun i hi => by rw [atI_join hi]; exact maxI_r _ _)
theorem least_join (n l m : List Int) : leastI n (joinI l m) = (leastI n l && leastI n m) := by
  cases h1 : leastI n l && leastI n m with
  | true =>
    rw [Bool.and_eq_true] at h1
    exact least_iff.2 (fun i hi => by rw [atI_join hi]; exact maxI_le.2 ⟨least_iff.1 h1.1 i hi, least_iff.1 h1.2 i hi⟩)
  | false =>
    cases h2 : leastI n (joinI l m) with
    | false => rfl
    | true =>
      have h3 := least_iff.1 h2
      have h4 : leastI n l = true := least_iff.2 (fun i hi => by have := h3 i hi; rw [atI_join hi] at this; exact (maxI_le.1 this).1)
      have h5 : leastI n m = true := least_iff.2 (fun i hi => by have := h3 i hi; rw [atI_join hi] at this; exact (maxI_le.1 this).2)
      rw [h4, h5] at h1; cases h1
theorem both_of {l m : List Int} (h : checkI l = 0) (k : checkI m = 0) : bothI l m = 0 := by unfold bothI; rw [h, k]; rfl
theorem both_first {l m : List Int} (k : checkI m = 0) : bothI l m = checkI l := by
  unfold bothI
  split
  · rfl
  · rw [k]; omega
theorem both_last {l m : List Int} (k : checkI l = 0) : bothI l m = checkI m := by unfold bothI; rw [k]; rfl
theorem maxI_comm (a b : Int) : maxI a b = maxI b a := by unfold maxI; split <;> split <;> omega
theorem maxI_self (a : Int) : maxI a a = a := by unfold maxI; split <;> omega
theorem maxI_assoc (a b c : Int) : maxI (maxI a b) c = maxI a (maxI b c) := by
  unfold maxI
  repeat' split
  all_goals omega
theorem join_comm (l m : List Int) : joinI l m = joinI m l := row_same (fun j _ => maxI_comm _ _)
theorem join_self {l : List Int} (h : l.length = 5) : joinI l l = l := eq_of_at (join_len _ _) h (fun i hi => by rw [atI_join hi, maxI_self])
theorem join_assoc (l m n : List Int) : joinI (joinI l m) n = joinI l (joinI m n) := eq_of_at (join_len _ _) (join_len _ _) (fun i hi => by rw [atI_join hi, atI_join hi, atI_join hi, atI_join hi, maxI_assoc])
section
variable {F G : Nat → Prop} {w : World} {v u : Value} {l m : List Int}
theorem cov_of {r : Int} {b : Bool} (h : RSl RInt 1 F w v l) (k : RSl RInt 1 G w u m) (e : bothI l m = r) (e2 : (if bothI l m = 0 then leastI l m else false) = b) :
    Calls Try.prog 13 #[v, u] w fun e w' => e = .returned (.tuple #[.bool b, .int .i64 r]) ∧ Ext w w' := by
  have h1 := covers_any h k
  rw [e2, e] at h1
  exact h1
theorem join_of {r : Int} {q : List Int} (h : RSl RInt 1 F w v l) (k : RSl RInt 1 G w u m) (e : bothI l m = r) (e2 : (if bothI l m = 0 then joinI l m else []) = q) :
    Calls Try.prog 12 #[v, u] w (IsIntsE q r w) := by
  have h1 := join_any h k
  rw [e2, e] at h1
  exact h1
theorem same_of (h : RSl RInt 1 F w v l) (k : RSl RInt 1 G w u m) (e : l = m) : Calls Try.prog 20 #[v, u] w fun e w' => e = .returned (.bool true) ∧ Ext w w' := by
  have h1 := sameInts_any h k
  rw [decide_eq_true e] at h1
  exact h1
end

set_option maxRecDepth 100000 in
set_option maxHeartbeats 4000000 in
theorem seenLeast_any {F G H : Nat → Prop} {w : World} {v u x : Value} {l m n : List Int} (h : RSl RInt 1 F w v l) (k : RSl RInt 1 G w u m) (g : RSl RInt 1 H w x n) :
    Calls Try.prog 4 #[v, u, x] w fun e w' => e = .returned (.bool true) ∧ Ext w w' := by
  have HL := Lib.hid (fun (W : World) (hx : Ext w W) => h.ext gInt hx)
  have HM := Lib.hid (fun (W : World) (hx : Ext w W) => k.ext gInt hx)
  have HN := Lib.hid (fun (W : World) (hx : Ext w W) => g.ext gInt hx)
  obtain ⟨al, nl, cl, rfl⟩ := h.slice
  obtain ⟨am, nm, cm, rfl⟩ := k.slice
  obtain ⟨an, nn, cn, rfl⟩ := g.slice
  clear h k g
  by_cases h0 : bothI l m = 0
  · obtain ⟨h1, h2⟩ := bothI_ok h0
    have HJ0 := Lib.hid (fun (W : World) (hx : Ext w W) => join_of (HL.out W hx) (HM.out W hx) h0 (if_pos h0))
    have hj := check_join h1 h2
    have B1 := Lib.hid (both_of hj h1)
    have B2 := Lib.hid (both_of hj h2)
    have L1 := Lib.hid (show (if bothI (joinI l m) l = 0 then leastI (joinI l m) l else false) = true by rw [if_pos B1.out]; exact least_l l m)
    have L2 := Lib.hid (show (if bothI (joinI l m) m = 0 then leastI (joinI l m) m else false) = true by rw [if_pos B2.out]; exact least_r l m)
    have B3 := Lib.hid (both_first (l := n) h1)
    have B4 := Lib.hid (both_first (l := n) h2)
    have B5 := Lib.hid (both_first (l := n) hj)
    have hjl := join_len l m
    have L6 := Lib.hid (least_join n l m)
    generalize joinI l m = j at *
    clear h0 h1 h2 hj
    by_cases h3 : checkI n = 0
    · have L3 := Lib.hid (show (if bothI n l = 0 then leastI n l else false) = leastI n l from if_pos (by rw [B3.out, h3]))
      have L4 := Lib.hid (show (if bothI n m = 0 then leastI n m else false) = leastI n m from if_pos (by rw [B4.out, h3]))
      have L5 := Lib.hid (show (if bothI n j = 0 then leastI n j else false) = (leastI n l && leastI n m) by rw [if_pos (by rw [B5.out, h3])]; exact L6.out)
      rw [h3] at B3 B4 B5
      clear h3 L6
      cases hbl : leastI n l with
      | true =>
        have M3 := Lib.hid (L3.out.trans hbl)
        cases hbm : leastI n m with
        | true =>
          have M4 := Lib.hid (L4.out.trans hbm)
          have M5 := Lib.hid (L5.out.trans (show (leastI n l && leastI n m) = true by rw [hbl, hbm]; rfl))
          clear hbl hbm L3 L4 L5
          (go_enter Try.func4, Try.ntmps4; go_wp2_with (first
        | (go_at_call 12; (with_reducible refine (HJ0.out _ (by repeat (first | (with_reducible exact ext_refl _) | (with_reducible assumption) | (with_reducible refine ext_drew ?_) | (with_reducible refine ext_drewN ?_ _) | (with_reducible refine ext_alloc ?_ _) | (with_reducible refine ext_set ?_ (by first | omega | (simp <;> omega)) _) | (with_reducible refine ext_trans ?_ (by with_reducible assumption))))).mono ?_); rintro e w1 ⟨v1, rfl, hv1, hx1⟩; obtain ⟨a1, n1, c1, rfl⟩ := hv1.slice; have HV1 := Lib.hid hv1; clear hv1)
        | (go_at_call 18; go_must ((with_reducible refine (seenBegun_any _).mono ?_); rintro e w20 ⟨rfl, hx20⟩))
        | (go_at_call 13; (with_reducible refine (cov_of (HV1.out.ext gInt (by repeat (first | (with_reducible exact ext_refl _) | (with_reducible assumption) | (with_reducible refine ext_drew ?_) | (with_reducible refine ext_drewN ?_ _) | (with_reducible refine ext_alloc ?_ _) | (with_reducible refine ext_set ?_ (by first | omega | (simp <;> omega)) _) | (with_reducible refine ext_trans ?_ (by with_reducible assumption))))) (HL.out _ (by repeat (first | (with_reducible exact ext_refl _) | (with_reducible assumption) | (with_reducible refine ext_drew ?_) | (with_reducible refine ext_drewN ?_ _) | (with_reducible refine ext_alloc ?_ _) | (with_reducible refine ext_set ?_ (by first | omega | (simp <;> omega)) _) | (with_reducible refine ext_trans ?_ (by with_reducible assumption))))) B1.out L1.out).mono ?_); rintro e w2 ⟨rfl, hx2⟩)
        | (go_at_call 13; (with_reducible refine (cov_of (HV1.out.ext gInt (by repeat (first | (with_reducible exact ext_refl _) | (with_reducible assumption) | (with_reducible refine ext_drew ?_) | (with_reducible refine ext_drewN ?_ _) | (with_reducible refine ext_alloc ?_ _) | (with_reducible refine ext_set ?_ (by first | omega | (simp <;> omega)) _) | (with_reducible refine ext_trans ?_ (by with_reducible assumption))))) (HM.out _ (by repeat (first | (with_reducible exact ext_refl _) | (with_reducible assumption) | (with_reducible refine ext_drew ?_) | (with_reducible refine ext_drewN ?_ _) | (with_reducible refine ext_alloc ?_ _) | (with_reducible refine ext_set ?_ (by first | omega | (simp <;> omega)) _) | (with_reducible refine ext_trans ?_ (by with_reducible assumption))))) B2.out L2.out).mono ?_); rintro e w3 ⟨rfl, hx3⟩)
        | (go_at_call 13; (with_reducible refine (cov_of (HN.out _ (by repeat (first | (with_reducible exact ext_refl _) | (with_reducible assumption) | (with_reducible refine ext_drew ?_) | (with_reducible refine ext_drewN ?_ _) | (with_reducible refine ext_alloc ?_ _) | (with_reducible refine ext_set ?_ (by first | omega | (simp <;> omega)) _) | (with_reducible refine ext_trans ?_ (by with_reducible assumption))))) (HL.out _ (by repeat (first | (with_reducible exact ext_refl _) | (with_reducible assumption) | (with_reducible refine ext_drew ?_) | (with_reducible refine ext_drewN ?_ _) | (with_reducible refine ext_alloc ?_ _) | (with_reducible refine ext_set ?_ (by first | omega | (simp <;> omega)) _) | (with_reducible refine ext_trans ?_ (by with_reducible assumption))))) B3.out M3.out).mono ?_); rintro e w4 ⟨rfl, hx4⟩)
        | (go_at_call 13; (with_reducible refine (cov_of (HN.out _ (by repeat (first | (with_reducible exact ext_refl _) | (with_reducible assumption) | (with_reducible refine ext_drew ?_) | (with_reducible refine ext_drewN ?_ _) | (with_reducible refine ext_alloc ?_ _) | (with_reducible refine ext_set ?_ (by first | omega | (simp <;> omega)) _) | (with_reducible refine ext_trans ?_ (by with_reducible assumption))))) (HM.out _ (by repeat (first | (with_reducible exact ext_refl _) | (with_reducible assumption) | (with_reducible refine ext_drew ?_) | (with_reducible refine ext_drewN ?_ _) | (with_reducible refine ext_alloc ?_ _) | (with_reducible refine ext_set ?_ (by first | omega | (simp <;> omega)) _) | (with_reducible refine ext_trans ?_ (by with_reducible assumption))))) B4.out M4.out).mono ?_); rintro e w5 ⟨rfl, hx5⟩)
        | (go_at_call 13; (with_reducible refine (cov_of (HN.out _ (by repeat (first | (with_reducible exact ext_refl _) | (with_reducible assumption) | (with_reducible refine ext_drew ?_) | (with_reducible refine ext_drewN ?_ _) | (with_reducible refine ext_alloc ?_ _) | (with_reducible refine ext_set ?_ (by first | omega | (simp <;> omega)) _) | (with_reducible refine ext_trans ?_ (by with_reducible assumption))))) (HV1.out.ext gInt (by repeat (first | (with_reducible exact ext_refl _) | (with_reducible assumption) | (with_reducible refine ext_drew ?_) | (with_reducible refine ext_drewN ?_ _) | (with_reducible refine ext_alloc ?_ _) | (with_reducible refine ext_set ?_ (by first | omega | (simp <;> omega)) _) | (with_reducible refine ext_trans ?_ (by with_reducible assumption))))) B5.out M5.out).mono ?_); rintro e w6 ⟨rfl, hx6⟩)); go_ret; exact ⟨rfl, (by repeat (first | (with_reducible exact ext_refl _) | (with_reducible assumption) | (with_reducible refine ext_drew ?_) | (with_reducible refine ext_drewN ?_ _) | (with_reducible refine ext_alloc ?_ _) | (with_reducible refine ext_set ?_ (by first | omega | (simp <;> omega)) _) | (with_reducible refine ext_trans ?_ (by with_reducible assumption))))⟩)
        | false =>
          have M4 := Lib.hid (L4.out.trans hbm)
          have M5 := Lib.hid (L5.out.trans (show (leastI n l && leastI n m) = false by rw [hbl, hbm]; rfl))
          clear hbl hbm L3 L4 L5
          (go_enter Try.func4, Try.ntmps4; go_wp2_with (first
        | (go_at_call 12; (with_reducible refine (HJ0.out _ (by repeat (first | (with_reducible exact ext_refl _) | (with_reducible assumption) | (with_reducible refine ext_drew ?_) | (with_reducible refine ext_drewN ?_ _) | (with_reducible refine ext_alloc ?_ _) | (with_reducible refine ext_set ?_ (by first | omega | (simp <;> omega)) _) | (with_reducible refine ext_trans ?_ (by with_reducible assumption))))).mono ?_); rintro e w1 ⟨v1, rfl, hv1, hx1⟩; obtain ⟨a1, n1, c1, rfl⟩ := hv1.slice; have HV1 := Lib.hid hv1; clear hv1)
        | (go_at_call 18; go_must ((with_reducible refine (seenBegun_any _).mono ?_); rintro e w20 ⟨rfl, hx20⟩))
        | (go_at_call 13; (with_reducible refine (cov_of (HV1.out.ext gInt (by repeat (first | (with_reducible exact ext_refl _) | (with_reducible assumption) | (with_reducible refine ext_drew ?_) | (with_reducible refine ext_drewN ?_ _) | (with_reducible refine ext_alloc ?_ _) | (with_reducible refine ext_set ?_ (by first | omega | (simp <;> omega)) _) | (with_reducible refine ext_trans ?_ (by with_reducible assumption))))) (HL.out _ (by repeat (first | (with_reducible exact ext_refl _) | (with_reducible assumption) | (with_reducible refine ext_drew ?_) | (with_reducible refine ext_drewN ?_ _) | (with_reducible refine ext_alloc ?_ _) | (with_reducible refine ext_set ?_ (by first | omega | (simp <;> omega)) _) | (with_reducible refine ext_trans ?_ (by with_reducible assumption))))) B1.out L1.out).mono ?_); rintro e w2 ⟨rfl, hx2⟩)
        | (go_at_call 13; (with_reducible refine (cov_of (HV1.out.ext gInt (by repeat (first | (with_reducible exact ext_refl _) | (with_reducible assumption) | (with_reducible refine ext_drew ?_) | (with_reducible refine ext_drewN ?_ _) | (with_reducible refine ext_alloc ?_ _) | (with_reducible refine ext_set ?_ (by first | omega | (simp <;> omega)) _) | (with_reducible refine ext_trans ?_ (by with_reducible assumption))))) (HM.out _ (by repeat (first | (with_reducible exact ext_refl _) | (with_reducible assumption) | (with_reducible refine ext_drew ?_) | (with_reducible refine ext_drewN ?_ _) | (with_reducible refine ext_alloc ?_ _) | (with_reducible refine ext_set ?_ (by first | omega | (simp <;> omega)) _) | (with_reducible refine ext_trans ?_ (by with_reducible assumption))))) B2.out L2.out).mono ?_); rintro e w3 ⟨rfl, hx3⟩)
        | (go_at_call 13; (with_reducible refine (cov_of (HN.out _ (by repeat (first | (with_reducible exact ext_refl _) | (with_reducible assumption) | (with_reducible refine ext_drew ?_) | (with_reducible refine ext_drewN ?_ _) | (with_reducible refine ext_alloc ?_ _) | (with_reducible refine ext_set ?_ (by first | omega | (simp <;> omega)) _) | (with_reducible refine ext_trans ?_ (by with_reducible assumption))))) (HL.out _ (by repeat (first | (with_reducible exact ext_refl _) | (with_reducible assumption) | (with_reducible refine ext_drew ?_) | (with_reducible refine ext_drewN ?_ _) | (with_reducible refine ext_alloc ?_ _) | (with_reducible refine ext_set ?_ (by first | omega | (simp <;> omega)) _) | (with_reducible refine ext_trans ?_ (by with_reducible assumption))))) B3.out M3.out).mono ?_); rintro e w4 ⟨rfl, hx4⟩)
        | (go_at_call 13; (with_reducible refine (cov_of (HN.out _ (by repeat (first | (with_reducible exact ext_refl _) | (with_reducible assumption) | (with_reducible refine ext_drew ?_) | (with_reducible refine ext_drewN ?_ _) | (with_reducible refine ext_alloc ?_ _) | (with_reducible refine ext_set ?_ (by first | omega | (simp <;> omega)) _) | (with_reducible refine ext_trans ?_ (by with_reducible assumption))))) (HM.out _ (by repeat (first | (with_reducible exact ext_refl _) | (with_reducible assumption) | (with_reducible refine ext_drew ?_) | (with_reducible refine ext_drewN ?_ _) | (with_reducible refine ext_alloc ?_ _) | (with_reducible refine ext_set ?_ (by first | omega | (simp <;> omega)) _) | (with_reducible refine ext_trans ?_ (by with_reducible assumption))))) B4.out M4.out).mono ?_); rintro e w5 ⟨rfl, hx5⟩)
        | (go_at_call 13; (with_reducible refine (cov_of (HN.out _ (by repeat (first | (with_reducible exact ext_refl _) | (with_reducible assumption) | (with_reducible refine ext_drew ?_) | (with_reducible refine ext_drewN ?_ _) | (with_reducible refine ext_alloc ?_ _) | (with_reducible refine ext_set ?_ (by first | omega | (simp <;> omega)) _) | (with_reducible refine ext_trans ?_ (by with_reducible assumption))))) (HV1.out.ext gInt (by repeat (first | (with_reducible exact ext_refl _) | (with_reducible assumption) | (with_reducible refine ext_drew ?_) | (with_reducible refine ext_drewN ?_ _) | (with_reducible refine ext_alloc ?_ _) | (with_reducible refine ext_set ?_ (by first | omega | (simp <;> omega)) _) | (with_reducible refine ext_trans ?_ (by with_reducible assumption))))) B5.out M5.out).mono ?_); rintro e w6 ⟨rfl, hx6⟩)); go_ret; exact ⟨rfl, (by repeat (first | (with_reducible exact ext_refl _) | (with_reducible assumption) | (with_reducible refine ext_drew ?_) | (with_reducible refine ext_drewN ?_ _) | (with_reducible refine ext_alloc ?_ _) | (with_reducible refine ext_set ?_ (by first | omega | (simp <;> omega)) _) | (with_reducible refine ext_trans ?_ (by with_reducible assumption))))⟩)
      | false =>
        have M3 := Lib.hid (L3.out.trans hbl)
        cases hbm : leastI n m with
        | true =>
          have M4 := Lib.hid (L4.out.trans hbm)
          have M5 := Lib.hid (L5.out.trans (show (leastI n l && leastI n m) = false by rw [hbl, hbm]; rfl))
          clear hbl hbm L3 L4 L5
          (go_enter Try.func4, Try.ntmps4; go_wp2_with (first
        | (go_at_call 12; (with_reducible refine (HJ0.out _ (by repeat (first | (with_reducible exact ext_refl _) | (with_reducible assumption) | (with_reducible refine ext_drew ?_) | (with_reducible refine ext_drewN ?_ _) | (with_reducible refine ext_alloc ?_ _) | (with_reducible refine ext_set ?_ (by first | omega | (simp <;> omega)) _) | (with_reducible refine ext_trans ?_ (by with_reducible assumption))))).mono ?_); rintro e w1 ⟨v1, rfl, hv1, hx1⟩; obtain ⟨a1, n1, c1, rfl⟩ := hv1.slice; have HV1 := Lib.hid hv1; clear hv1)
        | (go_at_call 18; go_must ((with_reducible refine (seenBegun_any _).mono ?_); rintro e w20 ⟨rfl, hx20⟩))
        | (go_at_call 13; (with_reducible refine (cov_of (HV1.out.ext gInt (by repeat (first | (with_reducible exact ext_refl _) | (with_reducible assumption) | (with_reducible refine ext_drew ?_) | (with_reducible refine ext_drewN ?_ _) | (with_reducible refine ext_alloc ?_ _) | (with_reducible refine ext_set ?_ (by first | omega | (simp <;> omega)) _) | (with_reducible refine ext_trans ?_ (by with_reducible assumption))))) (HL.out _ (by repeat (first | (with_reducible exact ext_refl _) | (with_reducible assumption) | (with_reducible refine ext_drew ?_) | (with_reducible refine ext_drewN ?_ _) | (with_reducible refine ext_alloc ?_ _) | (with_reducible refine ext_set ?_ (by first | omega | (simp <;> omega)) _) | (with_reducible refine ext_trans ?_ (by with_reducible assumption))))) B1.out L1.out).mono ?_); rintro e w2 ⟨rfl, hx2⟩)
        | (go_at_call 13; (with_reducible refine (cov_of (HV1.out.ext gInt (by repeat (first | (with_reducible exact ext_refl _) | (with_reducible assumption) | (with_reducible refine ext_drew ?_) | (with_reducible refine ext_drewN ?_ _) | (with_reducible refine ext_alloc ?_ _) | (with_reducible refine ext_set ?_ (by first | omega | (simp <;> omega)) _) | (with_reducible refine ext_trans ?_ (by with_reducible assumption))))) (HM.out _ (by repeat (first | (with_reducible exact ext_refl _) | (with_reducible assumption) | (with_reducible refine ext_drew ?_) | (with_reducible refine ext_drewN ?_ _) | (with_reducible refine ext_alloc ?_ _) | (with_reducible refine ext_set ?_ (by first | omega | (simp <;> omega)) _) | (with_reducible refine ext_trans ?_ (by with_reducible assumption))))) B2.out L2.out).mono ?_); rintro e w3 ⟨rfl, hx3⟩)
        | (go_at_call 13; (with_reducible refine (cov_of (HN.out _ (by repeat (first | (with_reducible exact ext_refl _) | (with_reducible assumption) | (with_reducible refine ext_drew ?_) | (with_reducible refine ext_drewN ?_ _) | (with_reducible refine ext_alloc ?_ _) | (with_reducible refine ext_set ?_ (by first | omega | (simp <;> omega)) _) | (with_reducible refine ext_trans ?_ (by with_reducible assumption))))) (HL.out _ (by repeat (first | (with_reducible exact ext_refl _) | (with_reducible assumption) | (with_reducible refine ext_drew ?_) | (with_reducible refine ext_drewN ?_ _) | (with_reducible refine ext_alloc ?_ _) | (with_reducible refine ext_set ?_ (by first | omega | (simp <;> omega)) _) | (with_reducible refine ext_trans ?_ (by with_reducible assumption))))) B3.out M3.out).mono ?_); rintro e w4 ⟨rfl, hx4⟩)
        | (go_at_call 13; (with_reducible refine (cov_of (HN.out _ (by repeat (first | (with_reducible exact ext_refl _) | (with_reducible assumption) | (with_reducible refine ext_drew ?_) | (with_reducible refine ext_drewN ?_ _) | (with_reducible refine ext_alloc ?_ _) | (with_reducible refine ext_set ?_ (by first | omega | (simp <;> omega)) _) | (with_reducible refine ext_trans ?_ (by with_reducible assumption))))) (HM.out _ (by repeat (first | (with_reducible exact ext_refl _) | (with_reducible assumption) | (with_reducible refine ext_drew ?_) | (with_reducible refine ext_drewN ?_ _) | (with_reducible refine ext_alloc ?_ _) | (with_reducible refine ext_set ?_ (by first | omega | (simp <;> omega)) _) | (with_reducible refine ext_trans ?_ (by with_reducible assumption))))) B4.out M4.out).mono ?_); rintro e w5 ⟨rfl, hx5⟩)
        | (go_at_call 13; (with_reducible refine (cov_of (HN.out _ (by repeat (first | (with_reducible exact ext_refl _) | (with_reducible assumption) | (with_reducible refine ext_drew ?_) | (with_reducible refine ext_drewN ?_ _) | (with_reducible refine ext_alloc ?_ _) | (with_reducible refine ext_set ?_ (by first | omega | (simp <;> omega)) _) | (with_reducible refine ext_trans ?_ (by with_reducible assumption))))) (HV1.out.ext gInt (by repeat (first | (with_reducible exact ext_refl _) | (with_reducible assumption) | (with_reducible refine ext_drew ?_) | (with_reducible refine ext_drewN ?_ _) | (with_reducible refine ext_alloc ?_ _) | (with_reducible refine ext_set ?_ (by first | omega | (simp <;> omega)) _) | (with_reducible refine ext_trans ?_ (by with_reducible assumption))))) B5.out M5.out).mono ?_); rintro e w6 ⟨rfl, hx6⟩)); go_ret; exact ⟨rfl, (by repeat (first | (with_reducible exact ext_refl _) | (with_reducible assumption) | (with_reducible refine ext_drew ?_) | (with_reducible refine ext_drewN ?_ _) | (with_reducible refine ext_alloc ?_ _) | (with_reducible refine ext_set ?_ (by first | omega | (simp <;> omega)) _) | (with_reducible refine ext_trans ?_ (by with_reducible assumption))))⟩)
        | false =>
          have M4 := Lib.hid (L4.out.trans hbm)
          have M5 := Lib.hid (L5.out.trans (show (leastI n l && leastI n m) = false by rw [hbl, hbm]; rfl))
          clear hbl hbm L3 L4 L5
          (go_enter Try.func4, Try.ntmps4; go_wp2_with (first
        | (go_at_call 12; (with_reducible refine (HJ0.out _ (by repeat (first | (with_reducible exact ext_refl _) | (with_reducible assumption) | (with_reducible refine ext_drew ?_) | (with_reducible refine ext_drewN ?_ _) | (with_reducible refine ext_alloc ?_ _) | (with_reducible refine ext_set ?_ (by first | omega | (simp <;> omega)) _) | (with_reducible refine ext_trans ?_ (by with_reducible assumption))))).mono ?_); rintro e w1 ⟨v1, rfl, hv1, hx1⟩; obtain ⟨a1, n1, c1, rfl⟩ := hv1.slice; have HV1 := Lib.hid hv1; clear hv1)
        | (go_at_call 18; go_must ((with_reducible refine (seenBegun_any _).mono ?_); rintro e w20 ⟨rfl, hx20⟩))
        | (go_at_call 13; (with_reducible refine (cov_of (HV1.out.ext gInt (by repeat (first | (with_reducible exact ext_refl _) | (with_reducible assumption) | (with_reducible refine ext_drew ?_) | (with_reducible refine ext_drewN ?_ _) | (with_reducible refine ext_alloc ?_ _) | (with_reducible refine ext_set ?_ (by first | omega | (simp <;> omega)) _) | (with_reducible refine ext_trans ?_ (by with_reducible assumption))))) (HL.out _ (by repeat (first | (with_reducible exact ext_refl _) | (with_reducible assumption) | (with_reducible refine ext_drew ?_) | (with_reducible refine ext_drewN ?_ _) | (with_reducible refine ext_alloc ?_ _) | (with_reducible refine ext_set ?_ (by first | omega | (simp <;> omega)) _) | (with_reducible refine ext_trans ?_ (by with_reducible assumption))))) B1.out L1.out).mono ?_); rintro e w2 ⟨rfl, hx2⟩)
        | (go_at_call 13; (with_reducible refine (cov_of (HV1.out.ext gInt (by repeat (first | (with_reducible exact ext_refl _) | (with_reducible assumption) | (with_reducible refine ext_drew ?_) | (with_reducible refine ext_drewN ?_ _) | (with_reducible refine ext_alloc ?_ _) | (with_reducible refine ext_set ?_ (by first | omega | (simp <;> omega)) _) | (with_reducible refine ext_trans ?_ (by with_reducible assumption))))) (HM.out _ (by repeat (first | (with_reducible exact ext_refl _) | (with_reducible assumption) | (with_reducible refine ext_drew ?_) | (with_reducible refine ext_drewN ?_ _) | (with_reducible refine ext_alloc ?_ _) | (with_reducible refine ext_set ?_ (by first | omega | (simp <;> omega)) _) | (with_reducible refine ext_trans ?_ (by with_reducible assumption))))) B2.out L2.out).mono ?_); rintro e w3 ⟨rfl, hx3⟩)
        | (go_at_call 13; (with_reducible refine (cov_of (HN.out _ (by repeat (first | (with_reducible exact ext_refl _) | (with_reducible assumption) | (with_reducible refine ext_drew ?_) | (with_reducible refine ext_drewN ?_ _) | (with_reducible refine ext_alloc ?_ _) | (with_reducible refine ext_set ?_ (by first | omega | (simp <;> omega)) _) | (with_reducible refine ext_trans ?_ (by with_reducible assumption))))) (HL.out _ (by repeat (first | (with_reducible exact ext_refl _) | (with_reducible assumption) | (with_reducible refine ext_drew ?_) | (with_reducible refine ext_drewN ?_ _) | (with_reducible refine ext_alloc ?_ _) | (with_reducible refine ext_set ?_ (by first | omega | (simp <;> omega)) _) | (with_reducible refine ext_trans ?_ (by with_reducible assumption))))) B3.out M3.out).mono ?_); rintro e w4 ⟨rfl, hx4⟩)
        | (go_at_call 13; (with_reducible refine (cov_of (HN.out _ (by repeat (first | (with_reducible exact ext_refl _) | (with_reducible assumption) | (with_reducible refine ext_drew ?_) | (with_reducible refine ext_drewN ?_ _) | (with_reducible refine ext_alloc ?_ _) | (with_reducible refine ext_set ?_ (by first | omega | (simp <;> omega)) _) | (with_reducible refine ext_trans ?_ (by with_reducible assumption))))) (HM.out _ (by repeat (first | (with_reducible exact ext_refl _) | (with_reducible assumption) | (with_reducible refine ext_drew ?_) | (with_reducible refine ext_drewN ?_ _) | (with_reducible refine ext_alloc ?_ _) | (with_reducible refine ext_set ?_ (by first | omega | (simp <;> omega)) _) | (with_reducible refine ext_trans ?_ (by with_reducible assumption))))) B4.out M4.out).mono ?_); rintro e w5 ⟨rfl, hx5⟩)
        | (go_at_call 13; (with_reducible refine (cov_of (HN.out _ (by repeat (first | (with_reducible exact ext_refl _) | (with_reducible assumption) | (with_reducible refine ext_drew ?_) | (with_reducible refine ext_drewN ?_ _) | (with_reducible refine ext_alloc ?_ _) | (with_reducible refine ext_set ?_ (by first | omega | (simp <;> omega)) _) | (with_reducible refine ext_trans ?_ (by with_reducible assumption))))) (HV1.out.ext gInt (by repeat (first | (with_reducible exact ext_refl _) | (with_reducible assumption) | (with_reducible refine ext_drew ?_) | (with_reducible refine ext_drewN ?_ _) | (with_reducible refine ext_alloc ?_ _) | (with_reducible refine ext_set ?_ (by first | omega | (simp <;> omega)) _) | (with_reducible refine ext_trans ?_ (by with_reducible assumption))))) B5.out M5.out).mono ?_); rintro e w6 ⟨rfl, hx6⟩)); go_ret; exact ⟨rfl, (by repeat (first | (with_reducible exact ext_refl _) | (with_reducible assumption) | (with_reducible refine ext_drew ?_) | (with_reducible refine ext_drewN ?_ _) | (with_reducible refine ext_alloc ?_ _) | (with_reducible refine ext_set ?_ (by first | omega | (simp <;> omega)) _) | (with_reducible refine ext_trans ?_ (by with_reducible assumption))))⟩)
    · have L3 := Lib.hid (show (if bothI n l = 0 then leastI n l else false) = false from if_neg (by rw [B3.out]; exact h3))
      have L4 := Lib.hid (show (if bothI n m = 0 then leastI n m else false) = false from if_neg (by rw [B4.out]; exact h3))
      have L5 := Lib.hid (show (if bothI n j = 0 then leastI n j else false) = false from if_neg (by rw [B5.out]; exact h3))
      have t1 : (checkI n != 0) = true := by simpa using h3
      generalize checkI n = r at *
      clear h3 L6
      (go_enter Try.func4, Try.ntmps4; go_wp2_with (first
        | (go_at_call 12; (with_reducible refine (HJ0.out _ (by repeat (first | (with_reducible exact ext_refl _) | (with_reducible assumption) | (with_reducible refine ext_drew ?_) | (with_reducible refine ext_drewN ?_ _) | (with_reducible refine ext_alloc ?_ _) | (with_reducible refine ext_set ?_ (by first | omega | (simp <;> omega)) _) | (with_reducible refine ext_trans ?_ (by with_reducible assumption))))).mono ?_); rintro e w1 ⟨v1, rfl, hv1, hx1⟩; obtain ⟨a1, n1, c1, rfl⟩ := hv1.slice; have HV1 := Lib.hid hv1; clear hv1)
        | (go_at_call 18; go_must ((with_reducible refine (seenBegun_any _).mono ?_); rintro e w20 ⟨rfl, hx20⟩))
        | (go_at_call 13; (with_reducible refine (cov_of (HV1.out.ext gInt (by repeat (first | (with_reducible exact ext_refl _) | (with_reducible assumption) | (with_reducible refine ext_drew ?_) | (with_reducible refine ext_drewN ?_ _) | (with_reducible refine ext_alloc ?_ _) | (with_reducible refine ext_set ?_ (by first | omega | (simp <;> omega)) _) | (with_reducible refine ext_trans ?_ (by with_reducible assumption))))) (HL.out _ (by repeat (first | (with_reducible exact ext_refl _) | (with_reducible assumption) | (with_reducible refine ext_drew ?_) | (with_reducible refine ext_drewN ?_ _) | (with_reducible refine ext_alloc ?_ _) | (with_reducible refine ext_set ?_ (by first | omega | (simp <;> omega)) _) | (with_reducible refine ext_trans ?_ (by with_reducible assumption))))) B1.out L1.out).mono ?_); rintro e w2 ⟨rfl, hx2⟩)
        | (go_at_call 13; (with_reducible refine (cov_of (HV1.out.ext gInt (by repeat (first | (with_reducible exact ext_refl _) | (with_reducible assumption) | (with_reducible refine ext_drew ?_) | (with_reducible refine ext_drewN ?_ _) | (with_reducible refine ext_alloc ?_ _) | (with_reducible refine ext_set ?_ (by first | omega | (simp <;> omega)) _) | (with_reducible refine ext_trans ?_ (by with_reducible assumption))))) (HM.out _ (by repeat (first | (with_reducible exact ext_refl _) | (with_reducible assumption) | (with_reducible refine ext_drew ?_) | (with_reducible refine ext_drewN ?_ _) | (with_reducible refine ext_alloc ?_ _) | (with_reducible refine ext_set ?_ (by first | omega | (simp <;> omega)) _) | (with_reducible refine ext_trans ?_ (by with_reducible assumption))))) B2.out L2.out).mono ?_); rintro e w3 ⟨rfl, hx3⟩)
        | (go_at_call 13; (with_reducible refine (cov_of (HN.out _ (by repeat (first | (with_reducible exact ext_refl _) | (with_reducible assumption) | (with_reducible refine ext_drew ?_) | (with_reducible refine ext_drewN ?_ _) | (with_reducible refine ext_alloc ?_ _) | (with_reducible refine ext_set ?_ (by first | omega | (simp <;> omega)) _) | (with_reducible refine ext_trans ?_ (by with_reducible assumption))))) (HL.out _ (by repeat (first | (with_reducible exact ext_refl _) | (with_reducible assumption) | (with_reducible refine ext_drew ?_) | (with_reducible refine ext_drewN ?_ _) | (with_reducible refine ext_alloc ?_ _) | (with_reducible refine ext_set ?_ (by first | omega | (simp <;> omega)) _) | (with_reducible refine ext_trans ?_ (by with_reducible assumption))))) B3.out L3.out).mono ?_); rintro e w4 ⟨rfl, hx4⟩)
        | (go_at_call 13; (with_reducible refine (cov_of (HN.out _ (by repeat (first | (with_reducible exact ext_refl _) | (with_reducible assumption) | (with_reducible refine ext_drew ?_) | (with_reducible refine ext_drewN ?_ _) | (with_reducible refine ext_alloc ?_ _) | (with_reducible refine ext_set ?_ (by first | omega | (simp <;> omega)) _) | (with_reducible refine ext_trans ?_ (by with_reducible assumption))))) (HM.out _ (by repeat (first | (with_reducible exact ext_refl _) | (with_reducible assumption) | (with_reducible refine ext_drew ?_) | (with_reducible refine ext_drewN ?_ _) | (with_reducible refine ext_alloc ?_ _) | (with_reducible refine ext_set ?_ (by first | omega | (simp <;> omega)) _) | (with_reducible refine ext_trans ?_ (by with_reducible assumption))))) B4.out L4.out).mono ?_); rintro e w5 ⟨rfl, hx5⟩)
        | (go_at_call 13; (with_reducible refine (cov_of (HN.out _ (by repeat (first | (with_reducible exact ext_refl _) | (with_reducible assumption) | (with_reducible refine ext_drew ?_) | (with_reducible refine ext_drewN ?_ _) | (with_reducible refine ext_alloc ?_ _) | (with_reducible refine ext_set ?_ (by first | omega | (simp <;> omega)) _) | (with_reducible refine ext_trans ?_ (by with_reducible assumption))))) (HV1.out.ext gInt (by repeat (first | (with_reducible exact ext_refl _) | (with_reducible assumption) | (with_reducible refine ext_drew ?_) | (with_reducible refine ext_drewN ?_ _) | (with_reducible refine ext_alloc ?_ _) | (with_reducible refine ext_set ?_ (by first | omega | (simp <;> omega)) _) | (with_reducible refine ext_trans ?_ (by with_reducible assumption))))) B5.out L5.out).mono ?_); rintro e w6 ⟨rfl, hx6⟩)); go_ret; exact ⟨rfl, (by repeat (first | (with_reducible exact ext_refl _) | (with_reducible assumption) | (with_reducible refine ext_drew ?_) | (with_reducible refine ext_drewN ?_ _) | (with_reducible refine ext_alloc ?_ _) | (with_reducible refine ext_set ?_ (by first | omega | (simp <;> omega)) _) | (with_reducible refine ext_trans ?_ (by with_reducible assumption))))⟩)
  · have J0 := Lib.hid (show (if bothI l m = 0 then joinI l m else []) = [] from if_neg h0)
    have H0 := Lib.hid (show bothI l m = bothI l m from rfl)
    have t1 : (bothI l m != 0) = true := by simpa using h0
    generalize hr : bothI l m = r at t1
    rw [hr] at H0 h0
    have H1 := Lib.hid hr
    clear h0 hr H0
    go_enter Try.func4, Try.ntmps4
    go_wp2_with (first
      | (go_at_call 12; go_must ((with_reducible refine (join_of (HL.out _ (by repeat (first | (with_reducible exact ext_refl _) | (with_reducible assumption) | (with_reducible refine ext_drew ?_) | (with_reducible refine ext_drewN ?_ _) | (with_reducible refine ext_alloc ?_ _) | (with_reducible refine ext_set ?_ (by first | omega | (simp <;> omega)) _) | (with_reducible refine ext_trans ?_ (by with_reducible assumption))))) (HM.out _ (by repeat (first | (with_reducible exact ext_refl _) | (with_reducible assumption) | (with_reducible refine ext_drew ?_) | (with_reducible refine ext_drewN ?_ _) | (with_reducible refine ext_alloc ?_ _) | (with_reducible refine ext_set ?_ (by first | omega | (simp <;> omega)) _) | (with_reducible refine ext_trans ?_ (by with_reducible assumption))))) H1.out J0.out).mono ?_); rintro e w1 ⟨v1, rfl, hv1, hx1⟩; obtain ⟨a1, n1, c1, rfl⟩ := hv1.slice; obtain rfl : n1 = 0 := hv1.len.1))
      | (go_at_call 18; go_must ((with_reducible refine (seenBegun_any _).mono ?_); rintro e w2 ⟨rfl, hx2⟩)))
    go_ret
    exact ⟨rfl, (by repeat (first | (with_reducible exact ext_refl _) | (with_reducible assumption) | (with_reducible refine ext_drew ?_) | (with_reducible refine ext_drewN ?_ _) | (with_reducible refine ext_alloc ?_ _) | (with_reducible refine ext_set ?_ (by first | omega | (simp <;> omega)) _) | (with_reducible refine ext_trans ?_ (by with_reducible assumption))))⟩

set_option maxRecDepth 100000 in
set_option maxHeartbeats 4000000 in
theorem seenJoins_any {F G H : Nat → Prop} {w : World} {v u x : Value} {l m n : List Int} (h : RSl RInt 1 F w v l) (k : RSl RInt 1 G w u m) (g : RSl RInt 1 H w x n) :
    Calls Try.prog 5 #[v, u, x] w fun e w' => e = .returned (.bool true) ∧ Ext w w' := by
  have HL := Lib.hid (fun (W : World) (hx : Ext w W) => h.ext gInt hx)
  have HM := Lib.hid (fun (W : World) (hx : Ext w W) => k.ext gInt hx)
  have HN := Lib.hid (fun (W : World) (hx : Ext w W) => g.ext gInt hx)
  obtain ⟨al, nl, cl, rfl⟩ := h.slice
  obtain ⟨am, nm, cm, rfl⟩ := k.slice
  obtain ⟨an, nn, cn, rfl⟩ := g.slice
  clear h k g
  by_cases h0 : bothI l m = 0
  · obtain ⟨h1, h2⟩ := bothI_ok h0
    have HJ0 := Lib.hid (fun (W : World) (hx : Ext w W) => join_of (HL.out W hx) (HM.out W hx) h0 (if_pos h0))
    have hj := check_join h1 h2
    have B1 := Lib.hid (both_of h2 h1)
    have J1 := Lib.hid (show (if bothI m l = 0 then joinI m l else []) = joinI l m by rw [if_pos B1.out]; exact join_comm m l)
    have B2 := Lib.hid (both_of h1 h1)
    have J2 := Lib.hid (show (if bothI l l = 0 then joinI l l else []) = l by rw [if_pos B2.out]; exact join_self (checkI_five h1).1)
    have B3 := Lib.hid (both_last (m := n) hj)
    have hjl := join_len l m
    by_cases h3 : checkI n = 0
    · have J3 := Lib.hid (show (if bothI (joinI l m) n = 0 then joinI (joinI l m) n else []) = joinI l (joinI m n) by rw [if_pos (by rw [B3.out, h3])]; exact join_assoc l m n)
      have B4 := Lib.hid (both_of h2 h3)
      have HJ4 := Lib.hid (fun (W : World) (hx : Ext w W) => join_of (HM.out W hx) (HN.out W hx) B4.out (if_pos B4.out))
      have B5 := Lib.hid (both_of h1 (check_join h2 h3))
      have HJ5 := Lib.hid (fun (W : World) (hx : Ext w W) (F : Nat → Prop) (vy : Value) (hy : RSl RInt 1 F W vy (joinI m n)) => join_of (HL.out W hx) hy B5.out (if_pos B5.out))
      rw [h3] at B3
      generalize joinI l (joinI m n) = jz at *
      generalize joinI m n = jy at *
      generalize joinI l m = j at *
      clear h0 h1 h2 hj h3
      (go_enter Try.func5, Try.ntmps5; go_wp2_with (first
        | (go_at_call 12; (with_reducible refine (HJ0.out _ (by repeat (first | (with_reducible exact ext_refl _) | (with_reducible assumption) | (with_reducible refine ext_drew ?_) | (with_reducible refine ext_drewN ?_ _) | (with_reducible refine ext_alloc ?_ _) | (with_reducible refine ext_set ?_ (by first | omega | (simp <;> omega)) _) | (with_reducible refine ext_trans ?_ (by with_reducible assumption))))).mono ?_); rintro e w1 ⟨v1, rfl, hv1, hx1⟩; obtain ⟨a1, n1, c1, rfl⟩ := hv1.slice; have HV1 := Lib.hid hv1; clear hv1)
        | (go_at_call 18; go_must ((with_reducible refine (seenBegun_any _).mono ?_); rintro e w20 ⟨rfl, hx20⟩))
        | (go_at_call 12; (with_reducible refine (join_of (HM.out _ (by repeat (first | (with_reducible exact ext_refl _) | (with_reducible assumption) | (with_reducible refine ext_drew ?_) | (with_reducible refine ext_drewN ?_ _) | (with_reducible refine ext_alloc ?_ _) | (with_reducible refine ext_set ?_ (by first | omega | (simp <;> omega)) _) | (with_reducible refine ext_trans ?_ (by with_reducible assumption))))) (HL.out _ (by repeat (first | (with_reducible exact ext_refl _) | (with_reducible assumption) | (with_reducible refine ext_drew ?_) | (with_reducible refine ext_drewN ?_ _) | (with_reducible refine ext_alloc ?_ _) | (with_reducible refine ext_set ?_ (by first | omega | (simp <;> omega)) _) | (with_reducible refine ext_trans ?_ (by with_reducible assumption))))) B1.out J1.out).mono ?_); rintro e w2 ⟨v2, rfl, hv2, hx2⟩; obtain ⟨a2, n2, c2, rfl⟩ := hv2.slice; have HV2 := Lib.hid hv2; clear hv2)
        | (go_at_call 12; (with_reducible refine (join_of (HL.out _ (by repeat (first | (with_reducible exact ext_refl _) | (with_reducible assumption) | (with_reducible refine ext_drew ?_) | (with_reducible refine ext_drewN ?_ _) | (with_reducible refine ext_alloc ?_ _) | (with_reducible refine ext_set ?_ (by first | omega | (simp <;> omega)) _) | (with_reducible refine ext_trans ?_ (by with_reducible assumption))))) (HL.out _ (by repeat (first | (with_reducible exact ext_refl _) | (with_reducible assumption) | (with_reducible refine ext_drew ?_) | (with_reducible refine ext_drewN ?_ _) | (with_reducible refine ext_alloc ?_ _) | (with_reducible refine ext_set ?_ (by first | omega | (simp <;> omega)) _) | (with_reducible refine ext_trans ?_ (by with_reducible assumption))))) B2.out J2.out).mono ?_); rintro e w3 ⟨v3, rfl, hv3, hx3⟩; obtain ⟨a3, n3, c3, rfl⟩ := hv3.slice; have HV3 := Lib.hid hv3; clear hv3)
        | (go_at_call 20; (with_reducible refine (same_of (HV1.out.ext gInt (by repeat (first | (with_reducible exact ext_refl _) | (with_reducible assumption) | (with_reducible refine ext_drew ?_) | (with_reducible refine ext_drewN ?_ _) | (with_reducible refine ext_alloc ?_ _) | (with_reducible refine ext_set ?_ (by first | omega | (simp <;> omega)) _) | (with_reducible refine ext_trans ?_ (by with_reducible assumption))))) (HV2.out.ext gInt (by repeat (first | (with_reducible exact ext_refl _) | (with_reducible assumption) | (with_reducible refine ext_drew ?_) | (with_reducible refine ext_drewN ?_ _) | (with_reducible refine ext_alloc ?_ _) | (with_reducible refine ext_set ?_ (by first | omega | (simp <;> omega)) _) | (with_reducible refine ext_trans ?_ (by with_reducible assumption))))) rfl).mono ?_); rintro e w4 ⟨rfl, hx4⟩)
        | (go_at_call 20; (with_reducible refine (same_of (HV3.out.ext gInt (by repeat (first | (with_reducible exact ext_refl _) | (with_reducible assumption) | (with_reducible refine ext_drew ?_) | (with_reducible refine ext_drewN ?_ _) | (with_reducible refine ext_alloc ?_ _) | (with_reducible refine ext_set ?_ (by first | omega | (simp <;> omega)) _) | (with_reducible refine ext_trans ?_ (by with_reducible assumption))))) (HL.out _ (by repeat (first | (with_reducible exact ext_refl _) | (with_reducible assumption) | (with_reducible refine ext_drew ?_) | (with_reducible refine ext_drewN ?_ _) | (with_reducible refine ext_alloc ?_ _) | (with_reducible refine ext_set ?_ (by first | omega | (simp <;> omega)) _) | (with_reducible refine ext_trans ?_ (by with_reducible assumption))))) rfl).mono ?_); rintro e w5 ⟨rfl, hx5⟩)
        | (go_at_call 12; (with_reducible refine (join_of (HV1.out.ext gInt (by repeat (first | (with_reducible exact ext_refl _) | (with_reducible assumption) | (with_reducible refine ext_drew ?_) | (with_reducible refine ext_drewN ?_ _) | (with_reducible refine ext_alloc ?_ _) | (with_reducible refine ext_set ?_ (by first | omega | (simp <;> omega)) _) | (with_reducible refine ext_trans ?_ (by with_reducible assumption))))) (HN.out _ (by repeat (first | (with_reducible exact ext_refl _) | (with_reducible assumption) | (with_reducible refine ext_drew ?_) | (with_reducible refine ext_drewN ?_ _) | (with_reducible refine ext_alloc ?_ _) | (with_reducible refine ext_set ?_ (by first | omega | (simp <;> omega)) _) | (with_reducible refine ext_trans ?_ (by with_reducible assumption))))) B3.out J3.out).mono ?_); rintro e w6 ⟨v6, rfl, hv6, hx6⟩; obtain ⟨a6, n6, c6, rfl⟩ := hv6.slice; have HV6 := Lib.hid hv6; clear hv6)
        | (go_at_call 12; (with_reducible refine (HJ4.out _ (by repeat (first | (with_reducible exact ext_refl _) | (with_reducible assumption) | (with_reducible refine ext_drew ?_) | (with_reducible refine ext_drewN ?_ _) | (with_reducible refine ext_alloc ?_ _) | (with_reducible refine ext_set ?_ (by first | omega | (simp <;> omega)) _) | (with_reducible refine ext_trans ?_ (by with_reducible assumption))))).mono ?_); rintro e w7 ⟨v7, rfl, hv7, hx7⟩; obtain ⟨a7, n7, c7, rfl⟩ := hv7.slice; have HV7 := Lib.hid hv7; clear hv7)
        | (go_at_call 12; (with_reducible refine (HJ5.out _ (by repeat (first | (with_reducible exact ext_refl _) | (with_reducible assumption) | (with_reducible refine ext_drew ?_) | (with_reducible refine ext_drewN ?_ _) | (with_reducible refine ext_alloc ?_ _) | (with_reducible refine ext_set ?_ (by first | omega | (simp <;> omega)) _) | (with_reducible refine ext_trans ?_ (by with_reducible assumption)))) _ _ (HV7.out.ext gInt (by repeat (first | (with_reducible exact ext_refl _) | (with_reducible assumption) | (with_reducible refine ext_drew ?_) | (with_reducible refine ext_drewN ?_ _) | (with_reducible refine ext_alloc ?_ _) | (with_reducible refine ext_set ?_ (by first | omega | (simp <;> omega)) _) | (with_reducible refine ext_trans ?_ (by with_reducible assumption)))))).mono ?_); rintro e w8 ⟨v8, rfl, hv8, hx8⟩; obtain ⟨a8, n8, c8, rfl⟩ := hv8.slice; have HV8 := Lib.hid hv8; clear hv8)
        | (go_at_call 20; (with_reducible refine (same_of (HV6.out.ext gInt (by repeat (first | (with_reducible exact ext_refl _) | (with_reducible assumption) | (with_reducible refine ext_drew ?_) | (with_reducible refine ext_drewN ?_ _) | (with_reducible refine ext_alloc ?_ _) | (with_reducible refine ext_set ?_ (by first | omega | (simp <;> omega)) _) | (with_reducible refine ext_trans ?_ (by with_reducible assumption))))) (HV8.out.ext gInt (by repeat (first | (with_reducible exact ext_refl _) | (with_reducible assumption) | (with_reducible refine ext_drew ?_) | (with_reducible refine ext_drewN ?_ _) | (with_reducible refine ext_alloc ?_ _) | (with_reducible refine ext_set ?_ (by first | omega | (simp <;> omega)) _) | (with_reducible refine ext_trans ?_ (by with_reducible assumption))))) rfl).mono ?_); rintro e w9 ⟨rfl, hx9⟩)); go_ret; exact ⟨rfl, (by repeat (first | (with_reducible exact ext_refl _) | (with_reducible assumption) | (with_reducible refine ext_drew ?_) | (with_reducible refine ext_drewN ?_ _) | (with_reducible refine ext_alloc ?_ _) | (with_reducible refine ext_set ?_ (by first | omega | (simp <;> omega)) _) | (with_reducible refine ext_trans ?_ (by with_reducible assumption))))⟩)
    · have J3 := Lib.hid (show (if bothI (joinI l m) n = 0 then joinI (joinI l m) n else []) = [] from if_neg (by rw [B3.out]; exact h3))
      have t1 : (checkI n != 0) = true := by simpa using h3
      generalize checkI n = r at *
      generalize joinI l m = j at *
      clear h0 h1 h2 hj h3
      (go_enter Try.func5, Try.ntmps5; go_wp2_with (first
        | (go_at_call 12; (with_reducible refine (HJ0.out _ (by repeat (first | (with_reducible exact ext_refl _) | (with_reducible assumption) | (with_reducible refine ext_drew ?_) | (with_reducible refine ext_drewN ?_ _) | (with_reducible refine ext_alloc ?_ _) | (with_reducible refine ext_set ?_ (by first | omega | (simp <;> omega)) _) | (with_reducible refine ext_trans ?_ (by with_reducible assumption))))).mono ?_); rintro e w1 ⟨v1, rfl, hv1, hx1⟩; obtain ⟨a1, n1, c1, rfl⟩ := hv1.slice; have HV1 := Lib.hid hv1; clear hv1)
        | (go_at_call 18; go_must ((with_reducible refine (seenBegun_any _).mono ?_); rintro e w20 ⟨rfl, hx20⟩))
        | (go_at_call 12; (with_reducible refine (join_of (HM.out _ (by repeat (first | (with_reducible exact ext_refl _) | (with_reducible assumption) | (with_reducible refine ext_drew ?_) | (with_reducible refine ext_drewN ?_ _) | (with_reducible refine ext_alloc ?_ _) | (with_reducible refine ext_set ?_ (by first | omega | (simp <;> omega)) _) | (with_reducible refine ext_trans ?_ (by with_reducible assumption))))) (HL.out _ (by repeat (first | (with_reducible exact ext_refl _) | (with_reducible assumption) | (with_reducible refine ext_drew ?_) | (with_reducible refine ext_drewN ?_ _) | (with_reducible refine ext_alloc ?_ _) | (with_reducible refine ext_set ?_ (by first | omega | (simp <;> omega)) _) | (with_reducible refine ext_trans ?_ (by with_reducible assumption))))) B1.out J1.out).mono ?_); rintro e w2 ⟨v2, rfl, hv2, hx2⟩; obtain ⟨a2, n2, c2, rfl⟩ := hv2.slice; have HV2 := Lib.hid hv2; clear hv2)
        | (go_at_call 12; (with_reducible refine (join_of (HL.out _ (by repeat (first | (with_reducible exact ext_refl _) | (with_reducible assumption) | (with_reducible refine ext_drew ?_) | (with_reducible refine ext_drewN ?_ _) | (with_reducible refine ext_alloc ?_ _) | (with_reducible refine ext_set ?_ (by first | omega | (simp <;> omega)) _) | (with_reducible refine ext_trans ?_ (by with_reducible assumption))))) (HL.out _ (by repeat (first | (with_reducible exact ext_refl _) | (with_reducible assumption) | (with_reducible refine ext_drew ?_) | (with_reducible refine ext_drewN ?_ _) | (with_reducible refine ext_alloc ?_ _) | (with_reducible refine ext_set ?_ (by first | omega | (simp <;> omega)) _) | (with_reducible refine ext_trans ?_ (by with_reducible assumption))))) B2.out J2.out).mono ?_); rintro e w3 ⟨v3, rfl, hv3, hx3⟩; obtain ⟨a3, n3, c3, rfl⟩ := hv3.slice; have HV3 := Lib.hid hv3; clear hv3)
        | (go_at_call 20; (with_reducible refine (same_of (HV1.out.ext gInt (by repeat (first | (with_reducible exact ext_refl _) | (with_reducible assumption) | (with_reducible refine ext_drew ?_) | (with_reducible refine ext_drewN ?_ _) | (with_reducible refine ext_alloc ?_ _) | (with_reducible refine ext_set ?_ (by first | omega | (simp <;> omega)) _) | (with_reducible refine ext_trans ?_ (by with_reducible assumption))))) (HV2.out.ext gInt (by repeat (first | (with_reducible exact ext_refl _) | (with_reducible assumption) | (with_reducible refine ext_drew ?_) | (with_reducible refine ext_drewN ?_ _) | (with_reducible refine ext_alloc ?_ _) | (with_reducible refine ext_set ?_ (by first | omega | (simp <;> omega)) _) | (with_reducible refine ext_trans ?_ (by with_reducible assumption))))) rfl).mono ?_); rintro e w4 ⟨rfl, hx4⟩)
        | (go_at_call 20; (with_reducible refine (same_of (HV3.out.ext gInt (by repeat (first | (with_reducible exact ext_refl _) | (with_reducible assumption) | (with_reducible refine ext_drew ?_) | (with_reducible refine ext_drewN ?_ _) | (with_reducible refine ext_alloc ?_ _) | (with_reducible refine ext_set ?_ (by first | omega | (simp <;> omega)) _) | (with_reducible refine ext_trans ?_ (by with_reducible assumption))))) (HL.out _ (by repeat (first | (with_reducible exact ext_refl _) | (with_reducible assumption) | (with_reducible refine ext_drew ?_) | (with_reducible refine ext_drewN ?_ _) | (with_reducible refine ext_alloc ?_ _) | (with_reducible refine ext_set ?_ (by first | omega | (simp <;> omega)) _) | (with_reducible refine ext_trans ?_ (by with_reducible assumption))))) rfl).mono ?_); rintro e w5 ⟨rfl, hx5⟩)
        | (go_at_call 12; (with_reducible refine (join_of (HV1.out.ext gInt (by repeat (first | (with_reducible exact ext_refl _) | (with_reducible assumption) | (with_reducible refine ext_drew ?_) | (with_reducible refine ext_drewN ?_ _) | (with_reducible refine ext_alloc ?_ _) | (with_reducible refine ext_set ?_ (by first | omega | (simp <;> omega)) _) | (with_reducible refine ext_trans ?_ (by with_reducible assumption))))) (HN.out _ (by repeat (first | (with_reducible exact ext_refl _) | (with_reducible assumption) | (with_reducible refine ext_drew ?_) | (with_reducible refine ext_drewN ?_ _) | (with_reducible refine ext_alloc ?_ _) | (with_reducible refine ext_set ?_ (by first | omega | (simp <;> omega)) _) | (with_reducible refine ext_trans ?_ (by with_reducible assumption))))) B3.out J3.out).mono ?_); rintro e w6 ⟨v6, rfl, hv6, hx6⟩; obtain ⟨a6, n6, c6, rfl⟩ := hv6.slice; obtain rfl : n6 = 0 := hv6.len.1; have HV6 := Lib.hid hv6; clear hv6)); go_ret; exact ⟨rfl, (by repeat (first | (with_reducible exact ext_refl _) | (with_reducible assumption) | (with_reducible refine ext_drew ?_) | (with_reducible refine ext_drewN ?_ _) | (with_reducible refine ext_alloc ?_ _) | (with_reducible refine ext_set ?_ (by first | omega | (simp <;> omega)) _) | (with_reducible refine ext_trans ?_ (by with_reducible assumption))))⟩)
  · have J0 := Lib.hid (show (if bothI l m = 0 then joinI l m else []) = [] from if_neg h0)
    have t1 : (bothI l m != 0) = true := by simpa using h0
    generalize hr : bothI l m = r at t1
    have H1 := Lib.hid hr
    clear h0 hr
    go_enter Try.func5, Try.ntmps5
    go_wp2_with (first
      | (go_at_call 12; go_must ((with_reducible refine (join_of (HL.out _ (by repeat (first | (with_reducible exact ext_refl _) | (with_reducible assumption) | (with_reducible refine ext_drew ?_) | (with_reducible refine ext_drewN ?_ _) | (with_reducible refine ext_alloc ?_ _) | (with_reducible refine ext_set ?_ (by first | omega | (simp <;> omega)) _) | (with_reducible refine ext_trans ?_ (by with_reducible assumption))))) (HM.out _ (by repeat (first | (with_reducible exact ext_refl _) | (with_reducible assumption) | (with_reducible refine ext_drew ?_) | (with_reducible refine ext_drewN ?_ _) | (with_reducible refine ext_alloc ?_ _) | (with_reducible refine ext_set ?_ (by first | omega | (simp <;> omega)) _) | (with_reducible refine ext_trans ?_ (by with_reducible assumption))))) H1.out J0.out).mono ?_); rintro e w1 ⟨v1, rfl, hv1, hx1⟩; obtain ⟨a1, n1, c1, rfl⟩ := hv1.slice; obtain rfl : n1 = 0 := hv1.len.1))
      | (go_at_call 18; go_must ((with_reducible refine (seenBegun_any _).mono ?_); rintro e w2 ⟨rfl, hx2⟩)))
    go_ret
    exact ⟨rfl, (by repeat (first | (with_reducible exact ext_refl _) | (with_reducible assumption) | (with_reducible refine ext_drew ?_) | (with_reducible refine ext_drewN ?_ _) | (with_reducible refine ext_alloc ?_ _) | (with_reducible refine ext_set ?_ (by first | omega | (simp <;> omega)) _) | (with_reducible refine ext_trans ?_ (by with_reducible assumption))))⟩
end Go.Proofs.Ytghfmgndddjofaa
