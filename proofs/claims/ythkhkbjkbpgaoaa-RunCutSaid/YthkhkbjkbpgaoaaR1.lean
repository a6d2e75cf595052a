/- What is wrong with a run. -/
import Derived.Test.YthkhkbjkbpgaoaaA0
import Derived.Test.YthkhkbjkbpgaoaaW10
set_option linter.unusedVariables false
set_option linter.unusedSimpArgs false
namespace Go.Proofs.Ythkhkbjkbpgaoaa
open Go Go.RowKit Go.BigFrame Cp

theorem tx_bytes {v : Value} {t : Tx} (h : RTx v t) : ∃ s : ByteArray, v = .string s ∧ t = s.data.toList ∧ s.size ≤ 140737488351232 := by
  obtain ⟨rfl, h⟩ := h
  exact ⟨⟨t.toArray⟩, rfl, by simp, by simpa [ByteArray.size] using h⟩
theorem tx_max {n : Nat} (h : n ≤ 140737488351232) : n ≤ maxLen := by unfold maxLen; omega
theorem bytes_nil {s : ByteArray} (h : s.size = 0) : s.data.toList = [] := by
  exact List.length_eq_zero_iff.1 (by simpa using h)
theorem bytes_cons {s : ByteArray} (h : ¬ s.size = 0) : s.data.toList ≠ [] := by
  intro e
  apply h
  have : s.data.toList.length = 0 := by rw [e]; rfl
  simpa using this
theorem empty_yes {s : ByteArray} (h : s.size = 0) : s.toList.isEmpty = true := by rw [ByteArray.toList_eq, bytes_nil h]; rfl
theorem empty_no {s : ByteArray} (h : ¬ s.size = 0) : s.toList.isEmpty = false := by
  rw [ByteArray.toList_eq]
  cases hl : s.data.toList with
  | nil => exact absurd hl (bytes_cons h)
  | cons _ _ => rfl
section
variable {m : Mk} {s : ByteArray}
theorem checkR_mark (h : ¬ checkM m = 0) : checkR (m, s.data.toList) = checkM m := by unfold checkR; rw [if_pos h]
theorem checkR_nil (h : checkM m = 0) (h2 : s.size = 0) : checkR (m, s.data.toList) = 1 := by unfold checkR; rw [if_neg (by simpa using h), if_pos (bytes_nil h2)]
theorem checkR_many (h : checkM m = 0) (h2 : ¬ s.size = 0) (h3 : 60 < s.size) : checkR (m, s.data.toList) = 2 := by unfold checkR; rw [if_neg (by simpa using h), if_neg (bytes_cons h2), if_pos (by simpa using h3)]
theorem checkR_sign (h : checkM m = 0) (h2 : ¬ s.size = 0) (h3 : ¬ 60 < s.size) (h4 : signsB s.data.toList = false) : checkR (m, s.data.toList) = 3 := by
  unfold checkR; rw [if_neg (by simpa using h), if_neg (bytes_cons h2), if_neg (by simpa using h3), if_pos h4]
theorem checkR_next (h : checkM m = 0) (h2 : ¬ s.size = 0) (h3 : ¬ 60 < s.size) (h4 : signsB s.data.toList = true) : checkR (m, s.data.toList) = (nextM m ((s.size : Int) - 1)).2 := by
  unfold checkR; rw [if_neg (by simpa using h), if_neg (bytes_cons h2), if_neg (by simpa using h3), if_neg (by rw [h4]; simp)]
  have : s.data.toList.length = s.size := by simp
  simp only [this]
end
theorem rrn_of {F : Nat → Prop} {w : World} {v : Value} {l : List Stp} {c : Int} {s : Value} {t : Tx} (h : RSl RStp 2 F w v l) (i : I64 c) (k : RTx s t) : RRn F w [v, .int .i64 c, s] ((l, c), t) := ⟨v, s, rfl, h, i, k⟩

set_option maxRecDepth 100000 in
set_option maxHeartbeats 4000000 in
theorem checkRunP_any {F : Nat → Prop} {w : World} {cs : List Value} {r : Rn} (h : RRn F w cs r) :
    Calls Try.prog 46 #[.agg cs.toArray] w fun e w' => e = .returned (.int .i64 (checkR r)) ∧ Ext w w' := by
  obtain ⟨v, u, rfl, hl, hi, hu⟩ := h
  obtain ⟨⟨l, c⟩, t⟩ := r
  simp only at hl hi hu ⊢
  obtain ⟨s, rfl, rfl, hs⟩ := tx_bytes hu
  have HC := Lib.hid (fun (W : World) (hx : Ext w W) => check_any (rmk_of' (hl.ext gStp hx) hi))
  have HN := Lib.hid (fun (W : World) (hx : Ext w W) => next_any (k := (s.size : Int) - 1) (rmk_of' (hl.ext gStp hx) hi))
  have HG := Lib.hid (fun (W : World) => signs_any s W (tx_max hs))
  obtain ⟨a1, n1, c1, rfl⟩ := hl.slice
  clear hl hi hu
  by_cases h0 : checkM (l, c) = 0
  · have H0 := Lib.hid h0
    rw [h0] at HC
    clear h0
    by_cases h1 : s.size = 0
    · rw [checkR_nil H0.out h1]
      have t1 : s.toList.isEmpty = true := empty_yes h1
      clear h1
      go_enter Try.func46, Try.ntmps46
      go_wp2_with (first
        | (go_at_call 33; go_must ((with_reducible refine (HC.out _ (by repeat (first | (with_reducible exact ext_refl _) | (with_reducible assumption) | (with_reducible refine ext_drew ?_) | (with_reducible refine ext_drewN ?_ _) | (with_reducible refine ext_alloc ?_ _) | (with_reducible refine ext_set ?_ (by first | omega | (simp <;> omega)) _) | (with_reducible refine ext_trans ?_ (by with_reducible assumption))))).mono ?_); rintro e w1 ⟨rfl, hx1⟩; have hz1 := hx1.size; (try simp at hz1); have hb1_0 : w.heap.size < w1.heap.size := (by omega); have p0 := (hx1.cells (w.heap.size) (0) (by first | omega | (simp <;> omega))).trans (show _ = some (.slice a1 n1 c1) by first | assumption | go_simp); have p1 := (hx1.cells (w.heap.size) (1) (by first | omega | (simp <;> omega))).trans (show _ = some (.int .i64 c) by first | assumption | go_simp); have p2 := (hx1.cells (w.heap.size) (2) (by first | omega | (simp <;> omega))).trans (show _ = some (.string s) by first | assumption | go_simp)))
        | (go_at_call 53; go_must ((with_reducible refine (HG.out _).mono ?_); rintro e w' ⟨rfl, rfl⟩))
        | (go_at_call 30; go_must ((with_reducible refine (HN.out _ (by repeat (first | (with_reducible exact ext_refl _) | (with_reducible assumption) | (with_reducible refine ext_drew ?_) | (with_reducible refine ext_drewN ?_ _) | (with_reducible refine ext_alloc ?_ _) | (with_reducible refine ext_set ?_ (by first | omega | (simp <;> omega)) _) | (with_reducible refine ext_trans ?_ (by with_reducible assumption))))).mono ?_); rintro e w3 ⟨cs3, rfl, hm3, hx3⟩)))
      go_ret
      exact ⟨rfl, (by repeat (first | (with_reducible exact ext_refl _) | (with_reducible assumption) | (with_reducible refine ext_drew ?_) | (with_reducible refine ext_drewN ?_ _) | (with_reducible refine ext_alloc ?_ _) | (with_reducible refine ext_set ?_ (by first | omega | (simp <;> omega)) _) | (with_reducible refine ext_trans ?_ (by with_reducible assumption))))⟩
    have t1 : s.toList.isEmpty = false := empty_no h1
    have hp : 0 < s.size := by omega
    by_cases h3 : 60 < s.size
    · rw [checkR_many H0.out h1 h3]
      clear h1
      go_enter Try.func46, Try.ntmps46
      go_wp2_with (first
        | (go_at_call 33; go_must ((with_reducible refine (HC.out _ (by repeat (first | (with_reducible exact ext_refl _) | (with_reducible assumption) | (with_reducible refine ext_drew ?_) | (with_reducible refine ext_drewN ?_ _) | (with_reducible refine ext_alloc ?_ _) | (with_reducible refine ext_set ?_ (by first | omega | (simp <;> omega)) _) | (with_reducible refine ext_trans ?_ (by with_reducible assumption))))).mono ?_); rintro e w1 ⟨rfl, hx1⟩; have hz1 := hx1.size; (try simp at hz1); have hb1_0 : w.heap.size < w1.heap.size := (by omega); have p0 := (hx1.cells (w.heap.size) (0) (by first | omega | (simp <;> omega))).trans (show _ = some (.slice a1 n1 c1) by first | assumption | go_simp); have p1 := (hx1.cells (w.heap.size) (1) (by first | omega | (simp <;> omega))).trans (show _ = some (.int .i64 c) by first | assumption | go_simp); have p2 := (hx1.cells (w.heap.size) (2) (by first | omega | (simp <;> omega))).trans (show _ = some (.string s) by first | assumption | go_simp)))
        | (go_at_call 53; go_must ((with_reducible refine (HG.out _).mono ?_); rintro e w' ⟨rfl, rfl⟩))
        | (go_at_call 30; go_must ((with_reducible refine (HN.out _ (by repeat (first | (with_reducible exact ext_refl _) | (with_reducible assumption) | (with_reducible refine ext_drew ?_) | (with_reducible refine ext_drewN ?_ _) | (with_reducible refine ext_alloc ?_ _) | (with_reducible refine ext_set ?_ (by first | omega | (simp <;> omega)) _) | (with_reducible refine ext_trans ?_ (by with_reducible assumption))))).mono ?_); rintro e w3 ⟨cs3, rfl, hm3, hx3⟩)))
      go_ret
      exact ⟨rfl, (by repeat (first | (with_reducible exact ext_refl _) | (with_reducible assumption) | (with_reducible refine ext_drew ?_) | (with_reducible refine ext_drewN ?_ _) | (with_reducible refine ext_alloc ?_ _) | (with_reducible refine ext_set ?_ (by first | omega | (simp <;> omega)) _) | (with_reducible refine ext_trans ?_ (by with_reducible assumption))))⟩
    cases h4 : signsB s.data.toList with
    | false =>
      rw [checkR_sign H0.out h1 h3 h4]
      rw [h4] at HG
      clear h1
      go_enter Try.func46, Try.ntmps46
      go_wp2_with (first
        | (go_at_call 33; go_must ((with_reducible refine (HC.out _ (by repeat (first | (with_reducible exact ext_refl _) | (with_reducible assumption) | (with_reducible refine ext_drew ?_) | (with_reducible refine ext_drewN ?_ _) | (with_reducible refine ext_alloc ?_ _) | (with_reducible refine ext_set ?_ (by first | omega | (simp <;> omega)) _) | (with_reducible refine ext_trans ?_ (by with_reducible assumption))))).mono ?_); rintro e w1 ⟨rfl, hx1⟩; have hz1 := hx1.size; (try simp at hz1); have hb1_0 : w.heap.size < w1.heap.size := (by omega); have p0 := (hx1.cells (w.heap.size) (0) (by first | omega | (simp <;> omega))).trans (show _ = some (.slice a1 n1 c1) by first | assumption | go_simp); have p1 := (hx1.cells (w.heap.size) (1) (by first | omega | (simp <;> omega))).trans (show _ = some (.int .i64 c) by first | assumption | go_simp); have p2 := (hx1.cells (w.heap.size) (2) (by first | omega | (simp <;> omega))).trans (show _ = some (.string s) by first | assumption | go_simp)))
        | (go_at_call 53; go_must ((with_reducible refine (HG.out _).mono ?_); rintro e w' ⟨rfl, rfl⟩))
        | (go_at_call 30; go_must ((with_reducible refine (HN.out _ (by repeat (first | (with_reducible exact ext_refl _) | (with_reducible assumption) | (with_reducible refine ext_drew ?_) | (with_reducible refine ext_drewN ?_ _) | (with_reducible refine ext_alloc ?_ _) | (with_reducible refine ext_set ?_ (by first | omega | (simp <;> omega)) _) | (with_reducible refine ext_trans ?_ (by with_reducible assumption))))).mono ?_); rintro e w3 ⟨cs3, rfl, hm3, hx3⟩)))
      go_ret
      exact ⟨rfl, (by repeat (first | (with_reducible exact ext_refl _) | (with_reducible assumption) | (with_reducible refine ext_drew ?_) | (with_reducible refine ext_drewN ?_ _) | (with_reducible refine ext_alloc ?_ _) | (with_reducible refine ext_set ?_ (by first | omega | (simp <;> omega)) _) | (with_reducible refine ext_trans ?_ (by with_reducible assumption))))⟩
    | true =>
      rw [checkR_next H0.out h1 h3 h4]
      rw [h4] at HG
      clear h1
      generalize nextM (l, c) ((s.size : Int) - 1) = nx at *
      obtain ⟨nm, er⟩ := nx
      simp only at HN ⊢
      go_enter Try.func46, Try.ntmps46
      go_wp2_with (first
        | (go_at_call 33; go_must ((with_reducible refine (HC.out _ (by repeat (first | (with_reducible exact ext_refl _) | (with_reducible assumption) | (with_reducible refine ext_drew ?_) | (with_reducible refine ext_drewN ?_ _) | (with_reducible refine ext_alloc ?_ _) | (with_reducible refine ext_set ?_ (by first | omega | (simp <;> omega)) _) | (with_reducible refine ext_trans ?_ (by with_reducible assumption))))).mono ?_); rintro e w1 ⟨rfl, hx1⟩; have hz1 := hx1.size; (try simp at hz1); have hb1_0 : w.heap.size < w1.heap.size := (by omega); have p0 := (hx1.cells (w.heap.size) (0) (by first | omega | (simp <;> omega))).trans (show _ = some (.slice a1 n1 c1) by first | assumption | go_simp); have p1 := (hx1.cells (w.heap.size) (1) (by first | omega | (simp <;> omega))).trans (show _ = some (.int .i64 c) by first | assumption | go_simp); have p2 := (hx1.cells (w.heap.size) (2) (by first | omega | (simp <;> omega))).trans (show _ = some (.string s) by first | assumption | go_simp)))
        | (go_at_call 53; go_must ((with_reducible refine (HG.out _).mono ?_); rintro e w' ⟨rfl, rfl⟩))
        | (go_at_call 30; go_must ((with_reducible refine (HN.out _ (by repeat (first | (with_reducible exact ext_refl _) | (with_reducible assumption) | (with_reducible refine ext_drew ?_) | (with_reducible refine ext_drewN ?_ _) | (with_reducible refine ext_alloc ?_ _) | (with_reducible refine ext_set ?_ (by first | omega | (simp <;> omega)) _) | (with_reducible refine ext_trans ?_ (by with_reducible assumption))))).mono ?_); rintro e w3 ⟨cs3, rfl, hm3, hx3⟩)))
      go_ret
      exact ⟨rfl, (by repeat (first | (with_reducible exact ext_refl _) | (with_reducible assumption) | (with_reducible refine ext_drew ?_) | (with_reducible refine ext_drewN ?_ _) | (with_reducible refine ext_alloc ?_ _) | (with_reducible refine ext_set ?_ (by first | omega | (simp <;> omega)) _) | (with_reducible refine ext_trans ?_ (by with_reducible assumption))))⟩
  · rw [checkR_mark h0]
    have t1 : (checkM (l, c) != 0) = true := by simpa using h0
    generalize checkM (l, c) = r at *
    clear h0
    go_enter Try.func46, Try.ntmps46
    go_wp2_with (first
      | (go_at_call 33; go_must ((with_reducible refine (HC.out _ (by repeat (first | (with_reducible exact ext_refl _) | (with_reducible assumption) | (with_reducible refine ext_drew ?_) | (with_reducible refine ext_drewN ?_ _) | (with_reducible refine ext_alloc ?_ _) | (with_reducible refine ext_set ?_ (by first | omega | (simp <;> omega)) _) | (with_reducible refine ext_trans ?_ (by with_reducible assumption))))).mono ?_); rintro e w1 ⟨rfl, hx1⟩; have hz1 := hx1.size; (try simp at hz1); have hb1_0 : w.heap.size < w1.heap.size := (by omega); have p0 := (hx1.cells (w.heap.size) (0) (by first | omega | (simp <;> omega))).trans (show _ = some (.slice a1 n1 c1) by first | assumption | go_simp); have p1 := (hx1.cells (w.heap.size) (1) (by first | omega | (simp <;> omega))).trans (show _ = some (.int .i64 c) by first | assumption | go_simp); have p2 := (hx1.cells (w.heap.size) (2) (by first | omega | (simp <;> omega))).trans (show _ = some (.string s) by first | assumption | go_simp)))
      | (go_at_call 53; go_must ((with_reducible refine (HG.out _).mono ?_); rintro e w' ⟨rfl, rfl⟩))
      | (go_at_call 30; go_must ((with_reducible refine (HN.out _ (by repeat (first | (with_reducible exact ext_refl _) | (with_reducible assumption) | (with_reducible refine ext_drew ?_) | (with_reducible refine ext_drewN ?_ _) | (with_reducible refine ext_alloc ?_ _) | (with_reducible refine ext_set ?_ (by first | omega | (simp <;> omega)) _) | (with_reducible refine ext_trans ?_ (by with_reducible assumption))))).mono ?_); rintro e w3 ⟨cs3, rfl, hm3, hx3⟩)))
    go_ret
    exact ⟨rfl, (by repeat (first | (with_reducible exact ext_refl _) | (with_reducible assumption) | (with_reducible refine ext_drew ?_) | (with_reducible refine ext_drewN ?_ _) | (with_reducible refine ext_alloc ?_ _) | (with_reducible refine ext_set ?_ (by first | omega | (simp <;> omega)) _) | (with_reducible refine ext_trans ?_ (by with_reducible assumption))))⟩

set_option maxRecDepth 100000 in
set_option maxHeartbeats 4000000 in
theorem checkRun_any {F : Nat → Prop} {w : World} {cs : List Value} {r : Rn} (h : RRn F w cs r) :
    Calls Try.prog 41 #[.agg cs.toArray] w fun e w' => e = .returned (.int .i64 (checkR r)) ∧ Ext w w' := by
  obtain ⟨v, u, rfl, hl, hi, hu⟩ := h
  obtain ⟨⟨l, c⟩, t⟩ := r
  simp only at hl hi hu ⊢
  obtain ⟨s, rfl, rfl, hs⟩ := tx_bytes hu
  have HC := Lib.hid (fun (W : World) (hx : Ext w W) => checkMark_any (rmk_of' (hl.ext gStp hx) hi))
  have HN := Lib.hid (fun (W : World) (hx : Ext w W) => nextOf_any (k := (s.size : Int) - 1) (rmk_of' (hl.ext gStp hx) hi))
  have HG := Lib.hid (fun (W : World) => areSigns_any s W (tx_max hs))
  obtain ⟨a1, n1, c1, rfl⟩ := hl.slice
  clear hl hi hu
  by_cases h0 : checkM (l, c) = 0
  · have H0 := Lib.hid h0
    rw [h0] at HC
    clear h0
    by_cases h1 : s.size = 0
    · rw [checkR_nil H0.out h1]
      have t1 : s.toList.isEmpty = true := empty_yes h1
      clear h1
      go_enter Try.func41, Try.ntmps41
      go_wp2_with (first
        | (go_at_call 26; go_must ((with_reducible refine (HC.out _ (by repeat (first | (with_reducible exact ext_refl _) | (with_reducible assumption) | (with_reducible refine ext_drew ?_) | (with_reducible refine ext_drewN ?_ _) | (with_reducible refine ext_alloc ?_ _) | (with_reducible refine ext_set ?_ (by first | omega | (simp <;> omega)) _) | (with_reducible refine ext_trans ?_ (by with_reducible assumption))))).mono ?_); rintro e w1 ⟨rfl, hx1⟩; have hz1 := hx1.size; (try simp at hz1); have hb1_0 : w.heap.size < w1.heap.size := (by omega); have p0 := (hx1.cells (w.heap.size) (0) (by first | omega | (simp <;> omega))).trans (show _ = some (.slice a1 n1 c1) by first | assumption | go_simp); have p1 := (hx1.cells (w.heap.size) (1) (by first | omega | (simp <;> omega))).trans (show _ = some (.int .i64 c) by first | assumption | go_simp); have p2 := (hx1.cells (w.heap.size) (2) (by first | omega | (simp <;> omega))).trans (show _ = some (.string s) by first | assumption | go_simp)))
        | (go_at_call 19; go_must ((with_reducible refine (HG.out _).mono ?_); rintro e w' ⟨rfl, rfl⟩))
        | (go_at_call 31; go_must ((with_reducible refine (HN.out _ (by repeat (first | (with_reducible exact ext_refl _) | (with_reducible assumption) | (with_reducible refine ext_drew ?_) | (with_reducible refine ext_drewN ?_ _) | (with_reducible refine ext_alloc ?_ _) | (with_reducible refine ext_set ?_ (by first | omega | (simp <;> omega)) _) | (with_reducible refine ext_trans ?_ (by with_reducible assumption))))).mono ?_); rintro e w3 ⟨cs3, rfl, hm3, hx3⟩)))
      go_ret
      exact ⟨rfl, (by repeat (first | (with_reducible exact ext_refl _) | (with_reducible assumption) | (with_reducible refine ext_drew ?_) | (with_reducible refine ext_drewN ?_ _) | (with_reducible refine ext_alloc ?_ _) | (with_reducible refine ext_set ?_ (by first | omega | (simp <;> omega)) _) | (with_reducible refine ext_trans ?_ (by with_reducible assumption))))⟩
    have t1 : s.toList.isEmpty = false := empty_no h1
    have hp : 0 < s.size := by omega
    by_cases h3 : 60 < s.size
    · rw [checkR_many H0.out h1 h3]
      clear h1
      go_enter Try.func41, Try.ntmps41
      go_wp2_with (first
        | (go_at_call 26; go_must ((with_reducible refine (HC.out _ (by repeat (first | (with_reducible exact ext_refl _) | (with_reducible assumption) | (with_reducible refine ext_drew ?_) | (with_reducible refine ext_drewN ?_ _) | (with_reducible refine ext_alloc ?_ _) | (with_reducible refine ext_set ?_ (by first | omega | (simp <;> omega)) _) | (with_reducible refine ext_trans ?_ (by with_reducible assumption))))).mono ?_); rintro e w1 ⟨rfl, hx1⟩; have hz1 := hx1.size; (try simp at hz1); have hb1_0 : w.heap.size < w1.heap.size := (by omega); have p0 := (hx1.cells (w.heap.size) (0) (by first | omega | (simp <;> omega))).trans (show _ = some (.slice a1 n1 c1) by first | assumption | go_simp); have p1 := (hx1.cells (w.heap.size) (1) (by first | omega | (simp <;> omega))).trans (show _ = some (.int .i64 c) by first | assumption | go_simp); have p2 := (hx1.cells (w.heap.size) (2) (by first | omega | (simp <;> omega))).trans (show _ = some (.string s) by first | assumption | go_simp)))
        | (go_at_call 19; go_must ((with_reducible refine (HG.out _).mono ?_); rintro e w' ⟨rfl, rfl⟩))
        | (go_at_call 31; go_must ((with_reducible refine (HN.out _ (by repeat (first | (with_reducible exact ext_refl _) | (with_reducible assumption) | (with_reducible refine ext_drew ?_) | (with_reducible refine ext_drewN ?_ _) | (with_reducible refine ext_alloc ?_ _) | (with_reducible refine ext_set ?_ (by first | omega | (simp <;> omega)) _) | (with_reducible refine ext_trans ?_ (by with_reducible assumption))))).mono ?_); rintro e w3 ⟨cs3, rfl, hm3, hx3⟩)))
      go_ret
      exact ⟨rfl, (by repeat (first | (with_reducible exact ext_refl _) | (with_reducible assumption) | (with_reducible refine ext_drew ?_) | (with_reducible refine ext_drewN ?_ _) | (with_reducible refine ext_alloc ?_ _) | (with_reducible refine ext_set ?_ (by first | omega | (simp <;> omega)) _) | (with_reducible refine ext_trans ?_ (by with_reducible assumption))))⟩
    cases h4 : signsB s.data.toList with
    | false =>
      rw [checkR_sign H0.out h1 h3 h4]
      rw [h4] at HG
      clear h1
      go_enter Try.func41, Try.ntmps41
      go_wp2_with (first
        | (go_at_call 26; go_must ((with_reducible refine (HC.out _ (by repeat (first | (with_reducible exact ext_refl _) | (with_reducible assumption) | (with_reducible refine ext_drew ?_) | (with_reducible refine ext_drewN ?_ _) | (with_reducible refine ext_alloc ?_ _) | (with_reducible refine ext_set ?_ (by first | omega | (simp <;> omega)) _) | (with_reducible refine ext_trans ?_ (by with_reducible assumption))))).mono ?_); rintro e w1 ⟨rfl, hx1⟩; have hz1 := hx1.size; (try simp at hz1); have hb1_0 : w.heap.size < w1.heap.size := (by omega); have p0 := (hx1.cells (w.heap.size) (0) (by first | omega | (simp <;> omega))).trans (show _ = some (.slice a1 n1 c1) by first | assumption | go_simp); have p1 := (hx1.cells (w.heap.size) (1) (by first | omega | (simp <;> omega))).trans (show _ = some (.int .i64 c) by first | assumption | go_simp); have p2 := (hx1.cells (w.heap.size) (2) (by first | omega | (simp <;> omega))).trans (show _ = some (.string s) by first | assumption | go_simp)))
        | (go_at_call 19; go_must ((with_reducible refine (HG.out _).mono ?_); rintro e w' ⟨rfl, rfl⟩))
        | (go_at_call 31; go_must ((with_reducible refine (HN.out _ (by repeat (first | (with_reducible exact ext_refl _) | (with_reducible assumption) | (with_reducible refine ext_drew ?_) | (with_reducible refine ext_drewN ?_ _) | (with_reducible refine ext_alloc ?_ _) | (with_reducible refine ext_set ?_ (by first | omega | (simp <;> omega)) _) | (with_reducible refine ext_trans ?_ (by with_reducible assumption))))).mono ?_); rintro e w3 ⟨cs3, rfl, hm3, hx3⟩)))
      go_ret
      exact ⟨rfl, (by repeat (first | (with_reducible exact ext_refl _) | (with_reducible assumption) | (with_reducible refine ext_drew ?_) | (with_reducible refine ext_drewN ?_ _) | (with_reducible refine ext_alloc ?_ _) | (with_reducible refine ext_set ?_ (by first | omega | (simp <;> omega)) _) | (with_reducible refine ext_trans ?_ (by with_reducible assumption))))⟩
    | true =>
      rw [checkR_next H0.out h1 h3 h4]
      rw [h4] at HG
      clear h1
      generalize nextM (l, c) ((s.size : Int) - 1) = nx at *
      obtain ⟨nm, er⟩ := nx
      simp only at HN ⊢
      go_enter Try.func41, Try.ntmps41
      go_wp2_with (first
        | (go_at_call 26; go_must ((with_reducible refine (HC.out _ (by repeat (first | (with_reducible exact ext_refl _) | (with_reducible assumption) | (with_reducible refine ext_drew ?_) | (with_reducible refine ext_drewN ?_ _) | (with_reducible refine ext_alloc ?_ _) | (with_reducible refine ext_set ?_ (by first | omega | (simp <;> omega)) _) | (with_reducible refine ext_trans ?_ (by with_reducible assumption))))).mono ?_); rintro e w1 ⟨rfl, hx1⟩; have hz1 := hx1.size; (try simp at hz1); have hb1_0 : w.heap.size < w1.heap.size := (by omega); have p0 := (hx1.cells (w.heap.size) (0) (by first | omega | (simp <;> omega))).trans (show _ = some (.slice a1 n1 c1) by first | assumption | go_simp); have p1 := (hx1.cells (w.heap.size) (1) (by first | omega | (simp <;> omega))).trans (show _ = some (.int .i64 c) by first | assumption | go_simp); have p2 := (hx1.cells (w.heap.size) (2) (by first | omega | (simp <;> omega))).trans (show _ = some (.string s) by first | assumption | go_simp)))
        | (go_at_call 19; go_must ((with_reducible refine (HG.out _).mono ?_); rintro e w' ⟨rfl, rfl⟩))
        | (go_at_call 31; go_must ((with_reducible refine (HN.out _ (by repeat (first | (with_reducible exact ext_refl _) | (with_reducible assumption) | (with_reducible refine ext_drew ?_) | (with_reducible refine ext_drewN ?_ _) | (with_reducible refine ext_alloc ?_ _) | (with_reducible refine ext_set ?_ (by first | omega | (simp <;> omega)) _) | (with_reducible refine ext_trans ?_ (by with_reducible assumption))))).mono ?_); rintro e w3 ⟨cs3, rfl, hm3, hx3⟩)))
      go_ret
      exact ⟨rfl, (by repeat (first | (with_reducible exact ext_refl _) | (with_reducible assumption) | (with_reducible refine ext_drew ?_) | (with_reducible refine ext_drewN ?_ _) | (with_reducible refine ext_alloc ?_ _) | (with_reducible refine ext_set ?_ (by first | omega | (simp <;> omega)) _) | (with_reducible refine ext_trans ?_ (by with_reducible assumption))))⟩
  · rw [checkR_mark h0]
    have t1 : (checkM (l, c) != 0) = true := by simpa using h0
    generalize checkM (l, c) = r at *
    clear h0
    go_enter Try.func41, Try.ntmps41
    go_wp2_with (first
      | (go_at_call 26; go_must ((with_reducible refine (HC.out _ (by repeat (first | (with_reducible exact ext_refl _) | (with_reducible assumption) | (with_reducible refine ext_drew ?_) | (with_reducible refine ext_drewN ?_ _) | (with_reducible refine ext_alloc ?_ _) | (with_reducible refine ext_set ?_ (by first | omega | (simp <;> omega)) _) | (with_reducible refine ext_trans ?_ (by with_reducible assumption))))).mono ?_); rintro e w1 ⟨rfl, hx1⟩; have hz1 := hx1.size; (try simp at hz1); have hb1_0 : w.heap.size < w1.heap.size := (by omega); have p0 := (hx1.cells (w.heap.size) (0) (by first | omega | (simp <;> omega))).trans (show _ = some (.slice a1 n1 c1) by first | assumption | go_simp); have p1 := (hx1.cells (w.heap.size) (1) (by first | omega | (simp <;> omega))).trans (show _ = some (.int .i64 c) by first | assumption | go_simp); have p2 := (hx1.cells (w.heap.size) (2) (by first | omega | (simp <;> omega))).trans (show _ = some (.string s) by first | assumption | go_simp)))
      | (go_at_call 19; go_must ((with_reducible refine (HG.out _).mono ?_); rintro e w' ⟨rfl, rfl⟩))
      | (go_at_call 31; go_must ((with_reducible refine (HN.out _ (by repeat (first | (with_reducible exact ext_refl _) | (with_reducible assumption) | (with_reducible refine ext_drew ?_) | (with_reducible refine ext_drewN ?_ _) | (with_reducible refine ext_alloc ?_ _) | (with_reducible refine ext_set ?_ (by first | omega | (simp <;> omega)) _) | (with_reducible refine ext_trans ?_ (by with_reducible assumption))))).mono ?_); rintro e w3 ⟨cs3, rfl, hm3, hx3⟩)))
    go_ret
    exact ⟨rfl, (by repeat (first | (with_reducible exact ext_refl _) | (with_reducible assumption) | (with_reducible refine ext_drew ?_) | (with_reducible refine ext_drewN ?_ _) | (with_reducible refine ext_alloc ?_ _) | (with_reducible refine ext_set ?_ (by first | omega | (simp <;> omega)) _) | (with_reducible refine ext_trans ?_ (by with_reducible assumption))))⟩
end Go.Proofs.Ythkhkbjkbpgaoaa
