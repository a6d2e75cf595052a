/- Carets: a mark of a place, a place of a mark. -/
import Derived.Test.YtfgfdohppgoajaaQbabeb3fad8
import Derived.Test.YtfgfdohppgoajaaQb1a04b30a8
import Derived.Test.YtfgfdohppgoajaaQ03bf41633c
import Derived.Test.YtfgfdohppgoajaaQ7235879c0f
import Derived.Test.YtfgfdohppgoajaaQ032f3a0a26
set_option linter.unusedVariables false
set_option linter.unusedSimpArgs false
namespace Go.Proofs.Ytfgfdohppgoajaa
open Go Go.RowKit Go.BigFrame Cp

def caretOf (s : St) (n : Int) : Mk × Int :=
  if checkS s ≠ 0 then (([], 0), checkS s) else if n < 0 ∨ (s.1.length : Int) < n then (([], 0), 3) else if n = 0 then (([], 0), 0) else (((s.1[(n - 1).toNat]?).map (·.1)).getD ([], 0), 0)
/-- where a caret is -/
def caretN (l : List At) (m : Mk) : Nat := if noneM m = true then 0 else placeA l m + (if hasM l m = true then 1 else 0)
def caretAt (s : St) (m : Mk) : Int × Int :=
  if checkS s ≠ 0 then (0, checkS s) else if noneM m = true then (0, 0) else if checkM m ≠ 0 then (0, checkM m) else ((caretN s.1 m : Nat), 0)

theorem sortedA_tl {a : At} {l : List At} (h : SortedA (a :: l)) : SortedA l := by
  cases l with
  | nil => trivial
  | cons b r => exact h.2
theorem count_zero {m : Mk} : ∀ {l : List At}, SortedA l → l.countP (fun a => decide (ordM a.1 m = 0)) = if hasM l m = true then 1 else 0
  | [], _ => by simp [hasM]
  | a :: l, h => by
    have ih := count_zero (m := m) (sortedA_tl h)
    have e1 : hasM (a :: l) m = (decide (ordM a.1 m = 0) || hasM l m) := by simp [hasM]
    by_cases h0 : ordM a.1 m = 0
    · have e2 : l.countP (fun a => decide (ordM a.1 m = 0)) = 0 := by
        rw [List.countP_eq_zero]
        intro b hb
        obtain ⟨t, ht, e⟩ := List.mem_iff_getElem.1 hb
        have h3 := sortedA_lt h (t + 1) a b 0 (by omega) rfl (by rw [List.getElem?_cons_succ, List.getElem?_eq_getElem ht, e])
        have hm := ordM_zero.1 h0
        have h4 := ordM_anti a.1 b.1
        rw [hm] at h3 h4
        simp; omega
      rw [List.countP_cons, e2, e1]
      simp [h0]
    · rw [List.countP_cons, ih, e1]
      simp [h0]
theorem count_le (l : List At) (m : Mk) : l.countP (fun a => decide (ordM a.1 m ≤ 0)) = placeA l m + l.countP (fun a => decide (ordM a.1 m = 0)) := by
  unfold placeA
  induction l with
  | nil => simp
  | cons a l ih =>
    rw [List.countP_cons, List.countP_cons, List.countP_cons, ih]
    have := ordM_range a.1 m
    rcases this with h | h | h <;> simp [h] <;> omega
theorem caretN_count {l : List At} {m : Mk} (hs : SortedA l) (h : noneM m = false) : caretN l m = l.countP (fun a => decide (ordM a.1 m ≤ 0)) := by
  unfold caretN
  rw [if_neg (by rw [h]; simp), count_le, count_zero hs]
theorem countP_step {α : Type} {p : α → Bool} {l : List α} {k : Nat} {a : α} (h : l[k]? = some a) : (l.take (k + 1)).countP p = (l.take k).countP p + (if p a = true then 1 else 0) := by
  obtain ⟨h1, h2⟩ := List.getElem?_eq_some_iff.1 h
  rw [List.take_succ_eq_append_getElem h1, h2, List.countP_append]; simp [List.countP_cons]
theorem countP_take_le {α : Type} {p : α → Bool} {l : List α} {k : Nat} : (l.take k).countP p ≤ k := Nat.le_trans List.countP_le_length (by rw [List.length_take]; omega)
section
variable {s : St} {n : Int} {m : Mk}
theorem caretOf_bad (h : ¬ checkS s = 0) : caretOf s n = (([], 0), checkS s) := by unfold caretOf; rw [if_pos h]
theorem caretOf_out (h : checkS s = 0) (h2 : n < 0 ∨ (s.1.length : Int) < n) : caretOf s n = (([], 0), 3) := by unfold caretOf; rw [if_neg (by simpa using h), if_pos h2]
theorem caretOf_zero (h : checkS s = 0) (h2 : n = 0) : caretOf s n = (([], 0), 0) := by unfold caretOf; rw [if_neg (by simpa using h), if_neg (by omega), if_pos h2]
theorem caretOf_in {a : At} {k : Nat} (h : checkS s = 0) (h2 : n = (k : Int) + 1) (h3 : s.1[k]? = some a) : caretOf s n = (a.1, 0) := by
  obtain ⟨h4, _⟩ := List.getElem?_eq_some_iff.1 h3
  have e : (n - 1).toNat = k := by omega
  unfold caretOf; rw [if_neg (by simpa using h), if_neg (by omega), if_neg (by omega), e, h3]; rfl
theorem checkS_atomsOk (h : checkS s = 0) : checkA s.1 = 0 := by
  by_cases h0 : checkA s.1 = 0
  · exact h0
  · obtain ⟨l, g⟩ := s
    rw [checkS_atoms h0] at h; exact h
theorem caretAt_bad (h : ¬ checkS s = 0) : caretAt s m = (0, checkS s) := by unfold caretAt; rw [if_pos h]
theorem caretAt_none (h : checkS s = 0) (h2 : noneM m = true) : caretAt s m = (0, 0) := by unfold caretAt; rw [if_neg (by simpa using h), if_pos h2]
theorem caretAt_mark (h : checkS s = 0) (h2 : noneM m = false) (h3 : ¬ checkM m = 0) : caretAt s m = (0, checkM m) := by unfold caretAt; rw [if_neg (by simpa using h), if_neg (by rw [h2]; simp), if_pos h3]
theorem caretAt_ok (h : checkS s = 0) (h2 : noneM m = false) (h3 : checkM m = 0) : caretAt s m = (((placeA s.1 m + (if hasM s.1 m = true then 1 else 0) : Nat) : Int), 0) := by
  unfold caretAt caretN; rw [if_neg (by simpa using h), if_neg (by rw [h2]; simp), if_neg (by simpa using h3), if_neg (by rw [h2]; simp)]
end
theorem rmk_zero {F : Nat → Prop} {w : World} : RMk F w [.slice none 0 0, .int .i64 0] ([], 0) := ⟨_, rfl, RSl.nil_ (Nat.zero_le _), i64_small (by simp) (by simp)⟩

set_option maxRecDepth 100000 in
set_option maxHeartbeats 4000000 in
theorem ofCaret_any {F : Nat → Prop} {w : World} {cs : List Value} {s : St} {n : Int} (h : RSt F w cs s) (hi : I64 n) :
    Calls Try.prog 24 #[.agg cs.toArray, .int .i64 n] w (IsMarkE (caretOf s n).1 (caretOf s n).2 w) := by
  have HC := Lib.hid (fun (W : World) (hx : Ext w W) => checkStateP_any (gSt.ext h hx))
  obtain ⟨va, vg, rfl, ha, hg⟩ := h
  obtain ⟨la, lg⟩ := s
  simp only at ha hg HC ⊢
  have HA := Lib.hid (fun (W : World) (hx : Ext w W) => ha.ext gAt hx)
  obtain ⟨a0, n0, c0, rfl⟩ := ha.slice
  obtain ⟨rfl, _, _⟩ := ha.len
  obtain ⟨a1, n1, c1, rfl⟩ := hg.slice
  obtain ⟨rfl, _, _⟩ := hg.len
  clear ha hg
  obtain ⟨hi1, hi2⟩ := hi
  by_cases h0 : checkS (la, lg) = 0
  · rw [h0] at HC
    by_cases h1 : n < 0
    · rw [caretOf_out h0 (.inl h1)]
      have t1 : decide (n < 0) = true := decide_eq_true h1
      clear h0
      go_enter Try.func24, Try.ntmps24
      go_wp2_with (go_at_call 16; go_must ((with_reducible refine (HC.out _ (by repeat (first | (with_reducible exact ext_refl _) | (with_reducible assumption) | (with_reducible refine ext_drew ?_) | (with_reducible refine ext_drewN ?_ _) | (with_reducible refine ext_alloc ?_ _) | (with_reducible refine ext_set ?_ (by first | omega | (simp <;> omega)) _) | (with_reducible refine ext_trans ?_ (by with_reducible assumption))))).mono ?_); rintro e w1 ⟨rfl, hx1⟩; have s0 := (hx1.cells (w.heap.size) (0) (by first | omega | (simp <;> omega))).trans (show _ = some (.slice a0 la.length c0) by first | assumption | go_simp); have s1 := (hx1.cells (w.heap.size) (1) (by first | omega | (simp <;> omega))).trans (show _ = some (.slice a1 lg.length c1) by first | assumption | go_simp); have r0 := (hx1.cells (w.heap.size + 1) (0) (by first | omega | (simp <;> omega))).trans (show _ = some (.slice none 0 0) by first | assumption | go_simp); have r1 := (hx1.cells (w.heap.size + 1) (1) (by first | omega | (simp <;> omega))).trans (show _ = some (.int .i64 0) by first | assumption | go_simp); have rf0 := (hx1.frz (w.heap.size + 1) (0) (by first | omega | (simp <;> omega))).trans (show _ = false by first | assumption | go_simp); have rf1 := (hx1.frz (w.heap.size + 1) (1) (by first | omega | (simp <;> omega))).trans (show _ = false by first | assumption | go_simp); have hz1 := hx1.size; (try simp at hz1); have hb1 : w.heap.size < w1.heap.size := (by omega); have hb2 : w.heap.size + 1 < w1.heap.size := (by omega)))
      all_goals refine bodyPost_ret (v := .tuple #[.agg #[.slice none 0 0, .int .i64 0], .int .i64 3]) (by simp [results, Try.results24, go_sem, r0, r1, rf0, rf1, hb1, hb2]) rfl ⟨[.slice none 0 0, .int .i64 0], rfl, rmk_zero, (by repeat (first | (with_reducible exact ext_refl _) | (with_reducible assumption) | (with_reducible refine ext_drew ?_) | (with_reducible refine ext_drewN ?_ _) | (with_reducible refine ext_alloc ?_ _) | (with_reducible refine ext_set ?_ (by first | omega | (simp <;> omega)) _) | (with_reducible refine ext_trans ?_ (by with_reducible assumption))))⟩
    by_cases h2 : (la.length : Int) < n
    · rw [caretOf_out h0 (.inr h2)]
      clear h0
      go_enter Try.func24, Try.ntmps24
      go_wp2_with (go_at_call 16; go_must ((with_reducible refine (HC.out _ (by repeat (first | (with_reducible exact ext_refl _) | (with_reducible assumption) | (with_reducible refine ext_drew ?_) | (with_reducible refine ext_drewN ?_ _) | (with_reducible refine ext_alloc ?_ _) | (with_reducible refine ext_set ?_ (by first | omega | (simp <;> omega)) _) | (with_reducible refine ext_trans ?_ (by with_reducible assumption))))).mono ?_); rintro e w1 ⟨rfl, hx1⟩; have s0 := (hx1.cells (w.heap.size) (0) (by first | omega | (simp <;> omega))).trans (show _ = some (.slice a0 la.length c0) by first | assumption | go_simp); have s1 := (hx1.cells (w.heap.size) (1) (by first | omega | (simp <;> omega))).trans (show _ = some (.slice a1 lg.length c1) by first | assumption | go_simp); have r0 := (hx1.cells (w.heap.size + 1) (0) (by first | omega | (simp <;> omega))).trans (show _ = some (.slice none 0 0) by first | assumption | go_simp); have r1 := (hx1.cells (w.heap.size + 1) (1) (by first | omega | (simp <;> omega))).trans (show _ = some (.int .i64 0) by first | assumption | go_simp); have rf0 := (hx1.frz (w.heap.size + 1) (0) (by first | omega | (simp <;> omega))).trans (show _ = false by first | assumption | go_simp); have rf1 := (hx1.frz (w.heap.size + 1) (1) (by first | omega | (simp <;> omega))).trans (show _ = false by first | assumption | go_simp); have hz1 := hx1.size; (try simp at hz1); have hb1 : w.heap.size < w1.heap.size := (by omega); have hb2 : w.heap.size + 1 < w1.heap.size := (by omega)))
      all_goals refine bodyPost_ret (v := .tuple #[.agg #[.slice none 0 0, .int .i64 0], .int .i64 3]) (by simp [results, Try.results24, go_sem, r0, r1, rf0, rf1, hb1, hb2]) rfl ⟨[.slice none 0 0, .int .i64 0], rfl, rmk_zero, (by repeat (first | (with_reducible exact ext_refl _) | (with_reducible assumption) | (with_reducible refine ext_drew ?_) | (with_reducible refine ext_drewN ?_ _) | (with_reducible refine ext_alloc ?_ _) | (with_reducible refine ext_set ?_ (by first | omega | (simp <;> omega)) _) | (with_reducible refine ext_trans ?_ (by with_reducible assumption))))⟩
    by_cases h3 : n = 0
    · rw [caretOf_zero h0 h3]
      have t3 : (n == 0) = true := by simpa using h3
      clear h0 h3
      go_enter Try.func24, Try.ntmps24
      go_wp2_with (go_at_call 16; go_must ((with_reducible refine (HC.out _ (by repeat (first | (with_reducible exact ext_refl _) | (with_reducible assumption) | (with_reducible refine ext_drew ?_) | (with_reducible refine ext_drewN ?_ _) | (with_reducible refine ext_alloc ?_ _) | (with_reducible refine ext_set ?_ (by first | omega | (simp <;> omega)) _) | (with_reducible refine ext_trans ?_ (by with_reducible assumption))))).mono ?_); rintro e w1 ⟨rfl, hx1⟩; have s0 := (hx1.cells (w.heap.size) (0) (by first | omega | (simp <;> omega))).trans (show _ = some (.slice a0 la.length c0) by first | assumption | go_simp); have s1 := (hx1.cells (w.heap.size) (1) (by first | omega | (simp <;> omega))).trans (show _ = some (.slice a1 lg.length c1) by first | assumption | go_simp); have r0 := (hx1.cells (w.heap.size + 1) (0) (by first | omega | (simp <;> omega))).trans (show _ = some (.slice none 0 0) by first | assumption | go_simp); have r1 := (hx1.cells (w.heap.size + 1) (1) (by first | omega | (simp <;> omega))).trans (show _ = some (.int .i64 0) by first | assumption | go_simp); have rf0 := (hx1.frz (w.heap.size + 1) (0) (by first | omega | (simp <;> omega))).trans (show _ = false by first | assumption | go_simp); have rf1 := (hx1.frz (w.heap.size + 1) (1) (by first | omega | (simp <;> omega))).trans (show _ = false by first | assumption | go_simp); have hz1 := hx1.size; (try simp at hz1); have hb1 : w.heap.size < w1.heap.size := (by omega); have hb2 : w.heap.size + 1 < w1.heap.size := (by omega)))
      all_goals refine bodyPost_ret (v := .tuple #[.agg #[.slice none 0 0, .int .i64 0], .int .i64 0]) (by simp [results, Try.results24, go_sem, r0, r1, rf0, rf1, hb1, hb2]) rfl ⟨[.slice none 0 0, .int .i64 0], rfl, rmk_zero, (by repeat (first | (with_reducible exact ext_refl _) | (with_reducible assumption) | (with_reducible refine ext_drew ?_) | (with_reducible refine ext_drewN ?_ _) | (with_reducible refine ext_alloc ?_ _) | (with_reducible refine ext_set ?_ (by first | omega | (simp <;> omega)) _) | (with_reducible refine ext_trans ?_ (by with_reducible assumption))))⟩
    · have t3 : (n == 0) = false := by simpa using h3
      obtain ⟨k, rfl⟩ : ∃ k : Nat, n = (k : Int) + 1 := ⟨(n - 1).toNat, by omega⟩
      have hkl : k < la.length := by omega
      obtain ⟨b, o, p, c, s, ap, cp, rfl, hb, ek, ick, hpp, y0, y1, y2⟩ := atm_at (HA.out w (ext_refl _)) hkl
      have hcm := (checkA_ok (checkS_atomsOk h0)).2.2 _ (List.mem_of_getElem? ek)
      have HOW := Lib.hid (fun (W : World) (hx : Ext w W) => own_any (rmk_of' (hpp.ext gStp hx) ick) (check_len hcm.1))
      rw [caretOf_in h0 rfl ek]
      have hk1 : (k : Int) + 1 - 1 = k := by omega
      have hn1 : ¬ b = w.heap.size := by omega
      have hn2 : ¬ b = w.heap.size + 1 := by omega
      have hl3 := (checkA_ok (checkS_atomsOk h0)).1
      clear h0 hpp ick ek h3 hi1 hi2 hk1
      go_enter Try.func24, Try.ntmps24
      go_wp2_with (first
        | (go_at_call 16; go_must ((with_reducible refine (HC.out _ (by repeat (first | (with_reducible exact ext_refl _) | (with_reducible assumption) | (with_reducible refine ext_drew ?_) | (with_reducible refine ext_drewN ?_ _) | (with_reducible refine ext_alloc ?_ _) | (with_reducible refine ext_set ?_ (by first | omega | (simp <;> omega)) _) | (with_reducible refine ext_trans ?_ (by with_reducible assumption))))).mono ?_); rintro e w1 ⟨rfl, hx1⟩; have s0 := (hx1.cells (w.heap.size) (0) (by first | omega | (simp <;> omega))).trans (show _ = some (.slice (some ⟨b, o, none⟩) la.length c0) by first | assumption | go_simp); have s1 := (hx1.cells (w.heap.size) (1) (by first | omega | (simp <;> omega))).trans (show _ = some (.slice a1 lg.length c1) by first | assumption | go_simp); have r0 := (hx1.cells (w.heap.size + 1) (0) (by first | omega | (simp <;> omega))).trans (show _ = some (.slice none 0 0) by first | assumption | go_simp); have r1 := (hx1.cells (w.heap.size + 1) (1) (by first | omega | (simp <;> omega))).trans (show _ = some (.int .i64 0) by first | assumption | go_simp); have rf0 := (hx1.frz (w.heap.size + 1) (0) (by first | omega | (simp <;> omega))).trans (show _ = false by first | assumption | go_simp); have rf1 := (hx1.frz (w.heap.size + 1) (1) (by first | omega | (simp <;> omega))).trans (show _ = false by first | assumption | go_simp); have hz1 := hx1.size; (try simp at hz1); have hb1 : w.heap.size < w1.heap.size := (by omega); have hb2 : w.heap.size + 1 < w1.heap.size := (by omega); have u0 := (hx1.cells b (o + k * 3) (by first | omega | (simp <;> omega))).trans (show _ = some (.slice ap p.length cp) by first | assumption | go_simp); have u1 := (hx1.cells b (o + k * 3 + 1) (by first | omega | (simp <;> omega))).trans (show _ = some (.int .i64 c) by first | assumption | go_simp)))
        | (go_at_call 59; go_must ((with_reducible refine (HOW.out _ (by repeat (first | (with_reducible exact ext_refl _) | (with_reducible assumption) | (with_reducible refine ext_drew ?_) | (with_reducible refine ext_drewN ?_ _) | (with_reducible refine ext_alloc ?_ _) | (with_reducible refine ext_set ?_ (by first | omega | (simp <;> omega)) _) | (with_reducible refine ext_trans ?_ (by with_reducible assumption))))).mono ?_); rintro e w2 ⟨cs2, rfl, hm2, hx2⟩; have HM2 := Lib.hid (omk_mk hm2); obtain ⟨v2, rfl, hv2, _⟩ := hm2; obtain ⟨a3, n3, c3, rfl⟩ := osl_slice hv2; have q0 := (hx2.cells (w.heap.size + 1) (0) (by first | omega | (simp <;> omega))).trans (show _ = some (.slice none 0 0) by first | assumption | go_simp); have q1 := (hx2.cells (w.heap.size + 1) (1) (by first | omega | (simp <;> omega))).trans (show _ = some (.int .i64 0) by first | assumption | go_simp); have qf0 := (hx2.frz (w.heap.size + 1) (0) (by first | omega | (simp <;> omega))).trans (show _ = false by first | assumption | go_simp); have qf1 := (hx2.frz (w.heap.size + 1) (1) (by first | omega | (simp <;> omega))).trans (show _ = false by first | assumption | go_simp); have hz2 := hx2.size; clear hv2)))
      refine bodyPost_ret (v := .tuple #[.agg #[.slice a3 n3 c3, .int .i64 c], .int .i64 0]) (by simp [results, Try.results24, go_sem, r0, r1, rf0, rf1, q0, q1, qf0, qf1, hb1, hb2]) rfl ⟨[.slice a3 n3 c3, .int .i64 c], rfl, RMk_fin HM2.out (by repeat (first | (with_reducible exact keeps_refl) | (with_reducible refine keeps_drew ?_) | (with_reducible refine keeps_alloc ?_ _) | (with_reducible refine keeps_set ?_ (by first | omega | (simp <;> omega)) _))) (by first | omega | (simp <;> omega)), (by repeat (first | (with_reducible exact ext_refl _) | (with_reducible assumption) | (with_reducible refine ext_drew ?_) | (with_reducible refine ext_drewN ?_ _) | (with_reducible refine ext_alloc ?_ _) | (with_reducible refine ext_set ?_ (by first | omega | (simp <;> omega)) _) | (with_reducible refine ext_trans ?_ (by with_reducible assumption))))⟩
  · rw [caretOf_bad h0]
    have t1 : (checkS (la, lg) != 0) = true := by simpa using h0
    generalize checkS (la, lg) = r at *
    clear h0
    go_enter Try.func24, Try.ntmps24
    go_wp2_with (go_at_call 16; go_must ((with_reducible refine (HC.out _ (by repeat (first | (with_reducible exact ext_refl _) | (with_reducible assumption) | (with_reducible refine ext_drew ?_) | (with_reducible refine ext_drewN ?_ _) | (with_reducible refine ext_alloc ?_ _) | (with_reducible refine ext_set ?_ (by first | omega | (simp <;> omega)) _) | (with_reducible refine ext_trans ?_ (by with_reducible assumption))))).mono ?_); rintro e w1 ⟨rfl, hx1⟩; have s0 := (hx1.cells (w.heap.size) (0) (by first | omega | (simp <;> omega))).trans (show _ = some (.slice a0 la.length c0) by first | assumption | go_simp); have s1 := (hx1.cells (w.heap.size) (1) (by first | omega | (simp <;> omega))).trans (show _ = some (.slice a1 lg.length c1) by first | assumption | go_simp); have r0 := (hx1.cells (w.heap.size + 1) (0) (by first | omega | (simp <;> omega))).trans (show _ = some (.slice none 0 0) by first | assumption | go_simp); have r1 := (hx1.cells (w.heap.size + 1) (1) (by first | omega | (simp <;> omega))).trans (show _ = some (.int .i64 0) by first | assumption | go_simp); have rf0 := (hx1.frz (w.heap.size + 1) (0) (by first | omega | (simp <;> omega))).trans (show _ = false by first | assumption | go_simp); have rf1 := (hx1.frz (w.heap.size + 1) (1) (by first | omega | (simp <;> omega))).trans (show _ = false by first | assumption | go_simp); have hz1 := hx1.size; (try simp at hz1); have hb1 : w.heap.size < w1.heap.size := (by omega); have hb2 : w.heap.size + 1 < w1.heap.size := (by omega)))
    all_goals refine bodyPost_ret (v := .tuple #[.agg #[.slice none 0 0, .int .i64 0], .int .i64 r]) (by simp [results, Try.results24, go_sem, r0, r1, rf0, rf1, hb1, hb2]) rfl ⟨[.slice none 0 0, .int .i64 0], rfl, rmk_zero, (by repeat (first | (with_reducible exact ext_refl _) | (with_reducible assumption) | (with_reducible refine ext_drew ?_) | (with_reducible refine ext_drewN ?_ _) | (with_reducible refine ext_alloc ?_ _) | (with_reducible refine ext_set ?_ (by first | omega | (simp <;> omega)) _) | (with_reducible refine ext_trans ?_ (by with_reducible assumption))))⟩
end Go.Proofs.Ytfgfdohppgoajaa
/- Carets: a place of a mark. -/
namespace Go.Proofs.Ytfgfdohppgoajaa
open Go Go.RowKit Go.BigFrame Cp

def IsTwo (x y : Int) (w : World) (e : Ending) (w' : World) : Prop := e = .returned (.tuple #[.int .i64 x, .int .i64 y]) ∧ Ext w w'
set_option maxRecDepth 100000 in
set_option maxHeartbeats 4000000 in
theorem atCaret_any {F G : Nat → Prop} {w : World} {cs ds : List Value} {s : St} {m : Mk} (h : RSt F w cs s) (hm : RMk G w ds m) :
    Calls Try.prog 25 #[.agg cs.toArray, .agg ds.toArray] w (IsTwo (caretAt s m).1 (caretAt s m).2 w) := by
  have HC := Lib.hid (fun (W : World) (hx : Ext w W) => checkStateP_any (gSt.ext h hx))
  have HN := Lib.hid (fun (W : World) (hx : Ext w W) => noneP_any (gMk.ext hm hx))
  have HK := Lib.hid (fun (W : World) (hx : Ext w W) => check_any (gMk.ext hm hx))
  have HMX := Lib.hid (fun (W : World) (hx : Ext w W) => gMk.ext hm hx)
  obtain ⟨va, vg, rfl, ha, hg⟩ := h
  obtain ⟨u, rfl, hmm, _⟩ := hm
  obtain ⟨la, lg⟩ := s
  obtain ⟨m, d⟩ := m
  simp only at ha hg hmm HC HN HK HMX ⊢
  have HA := Lib.hid (fun (W : World) (hx : Ext w W) => ha.ext gAt hx)
  obtain ⟨a0, n0, c0, rfl⟩ := ha.slice
  obtain ⟨rfl, _, _⟩ := ha.len
  obtain ⟨a1, n1, c1, rfl⟩ := hg.slice
  obtain ⟨rfl, _, _⟩ := hg.len
  obtain ⟨a2, n2, c2, rfl⟩ := hmm.slice
  clear ha hg hmm
  by_cases h0 : checkS (la, lg) = 0
  · have HOK := Lib.hid (checkA_ok (checkS_atomsOk h0))
    rw [h0] at HC
    cases hn : noneM (m, d) with
    | true =>
      rw [caretAt_none h0 hn]
      rw [hn] at HN
      clear h0
      go_enter Try.func25, Try.ntmps25
      go_wp2_with (first
        | (go_at_call 16; go_must ((with_reducible refine (HC.out _ (by repeat (first | (with_reducible exact ext_refl _) | (with_reducible assumption) | (with_reducible refine ext_drew ?_) | (with_reducible refine ext_drewN ?_ _) | (with_reducible refine ext_alloc ?_ _) | (with_reducible refine ext_set ?_ (by first | omega | (simp <;> omega)) _) | (with_reducible refine ext_trans ?_ (by with_reducible assumption))))).mono ?_); rintro e w1 ⟨rfl, hx1⟩; have r0 := (hx1.cells (w.heap.size) (0) (by first | omega | (simp <;> omega))).trans (show _ = some (.slice a0 la.length c0) by first | assumption | go_simp); have r1 := (hx1.cells (w.heap.size) (1) (by first | omega | (simp <;> omega))).trans (show _ = some (.slice a1 lg.length c1) by first | assumption | go_simp); have r2 := (hx1.cells (w.heap.size + 1) (0) (by first | omega | (simp <;> omega))).trans (show _ = some (.slice a2 n2 c2) by first | assumption | go_simp); have r3 := (hx1.cells (w.heap.size + 1) (1) (by first | omega | (simp <;> omega))).trans (show _ = some (.int .i64 d) by first | assumption | go_simp); have hz1 := hx1.size; (try simp at hz1); have hb1_0 : w.heap.size < w1.heap.size := (by omega); have hb1_1 : w.heap.size + 1 < w1.heap.size := (by omega)))
        | (go_at_call 44; go_must ((with_reducible refine (HN.out _ (by repeat (first | (with_reducible exact ext_refl _) | (with_reducible assumption) | (with_reducible refine ext_drew ?_) | (with_reducible refine ext_drewN ?_ _) | (with_reducible refine ext_alloc ?_ _) | (with_reducible refine ext_set ?_ (by first | omega | (simp <;> omega)) _) | (with_reducible refine ext_trans ?_ (by with_reducible assumption))))).mono ?_); rintro e w2 ⟨rfl, hx2⟩; have s0 := (hx2.cells (w.heap.size) (0) (by first | omega | (simp <;> omega))).trans (show _ = some (.slice a0 la.length c0) by first | assumption | go_simp); have s1 := (hx2.cells (w.heap.size) (1) (by first | omega | (simp <;> omega))).trans (show _ = some (.slice a1 lg.length c1) by first | assumption | go_simp); have s2 := (hx2.cells (w.heap.size + 1) (0) (by first | omega | (simp <;> omega))).trans (show _ = some (.slice a2 n2 c2) by first | assumption | go_simp); have s3 := (hx2.cells (w.heap.size + 1) (1) (by first | omega | (simp <;> omega))).trans (show _ = some (.int .i64 d) by first | assumption | go_simp); have hz2 := hx2.size; (try simp at hz2); have hb2_0 : w.heap.size < w2.heap.size := (by omega); have hb2_1 : w.heap.size + 1 < w2.heap.size := (by omega))))
      refine bodyPost_ret (v := .tuple #[.int .i64 0, .int .i64 0]) (by simp [results, Try.results25, go_sem]) rfl ⟨rfl, (by repeat (first | (with_reducible exact ext_refl _) | (with_reducible assumption) | (with_reducible refine ext_drew ?_) | (with_reducible refine ext_drewN ?_ _) | (with_reducible refine ext_alloc ?_ _) | (with_reducible refine ext_set ?_ (by first | omega | (simp <;> omega)) _) | (with_reducible refine ext_trans ?_ (by with_reducible assumption))))⟩
    | false =>
      rw [hn] at HN
      by_cases h1 : checkM (m, d) = 0
      · rw [caretAt_ok h0 hn h1]
        rw [h1] at HK
        have hl3 : la.length ≤ 300 := HOK.out.1
        have HF := Lib.hid (fun (W : World) (hx : Ext w W) => findA_any (HA.out W hx) (HMX.out W hx) HOK.out.2.1 (by omega))
        have hpl := placeA_le la (m, d)
        clear h0 h1
        simp only
        generalize placeA la (m, d) = pl at *
        generalize hasM la (m, d) = hs at *
        cases hs with
        | true =>
          go_enter Try.func25, Try.ntmps25
          go_wp2_with (first
            | (go_at_call 16; go_must ((with_reducible refine (HC.out _ (by repeat (first | (with_reducible exact ext_refl _) | (with_reducible assumption) | (with_reducible refine ext_drew ?_) | (with_reducible refine ext_drewN ?_ _) | (with_reducible refine ext_alloc ?_ _) | (with_reducible refine ext_set ?_ (by first | omega | (simp <;> omega)) _) | (with_reducible refine ext_trans ?_ (by with_reducible assumption))))).mono ?_); rintro e w1 ⟨rfl, hx1⟩; have r0 := (hx1.cells (w.heap.size) (0) (by first | omega | (simp <;> omega))).trans (show _ = some (.slice a0 la.length c0) by first | assumption | go_simp); have r1 := (hx1.cells (w.heap.size) (1) (by first | omega | (simp <;> omega))).trans (show _ = some (.slice a1 lg.length c1) by first | assumption | go_simp); have r2 := (hx1.cells (w.heap.size + 1) (0) (by first | omega | (simp <;> omega))).trans (show _ = some (.slice a2 n2 c2) by first | assumption | go_simp); have r3 := (hx1.cells (w.heap.size + 1) (1) (by first | omega | (simp <;> omega))).trans (show _ = some (.int .i64 d) by first | assumption | go_simp); have hz1 := hx1.size; (try simp at hz1); have hb1_0 : w.heap.size < w1.heap.size := (by omega); have hb1_1 : w.heap.size + 1 < w1.heap.size := (by omega)))
            | (go_at_call 44; go_must ((with_reducible refine (HN.out _ (by repeat (first | (with_reducible exact ext_refl _) | (with_reducible assumption) | (with_reducible refine ext_drew ?_) | (with_reducible refine ext_drewN ?_ _) | (with_reducible refine ext_alloc ?_ _) | (with_reducible refine ext_set ?_ (by first | omega | (simp <;> omega)) _) | (with_reducible refine ext_trans ?_ (by with_reducible assumption))))).mono ?_); rintro e w2 ⟨rfl, hx2⟩; have s0 := (hx2.cells (w.heap.size) (0) (by first | omega | (simp <;> omega))).trans (show _ = some (.slice a0 la.length c0) by first | assumption | go_simp); have s1 := (hx2.cells (w.heap.size) (1) (by first | omega | (simp <;> omega))).trans (show _ = some (.slice a1 lg.length c1) by first | assumption | go_simp); have s2 := (hx2.cells (w.heap.size + 1) (0) (by first | omega | (simp <;> omega))).trans (show _ = some (.slice a2 n2 c2) by first | assumption | go_simp); have s3 := (hx2.cells (w.heap.size + 1) (1) (by first | omega | (simp <;> omega))).trans (show _ = some (.int .i64 d) by first | assumption | go_simp); have hz2 := hx2.size; (try simp at hz2); have hb2_0 : w.heap.size < w2.heap.size := (by omega); have hb2_1 : w.heap.size + 1 < w2.heap.size := (by omega)))
            | (go_at_call 45; go_must ((with_reducible refine (HK.out _ (by repeat (first | (with_reducible exact ext_refl _) | (with_reducible assumption) | (with_reducible refine ext_drew ?_) | (with_reducible refine ext_drewN ?_ _) | (with_reducible refine ext_alloc ?_ _) | (with_reducible refine ext_set ?_ (by first | omega | (simp <;> omega)) _) | (with_reducible refine ext_trans ?_ (by with_reducible assumption))))).mono ?_); rintro e w3 ⟨rfl, hx3⟩; have q0 := (hx3.cells (w.heap.size) (0) (by first | omega | (simp <;> omega))).trans (show _ = some (.slice a0 la.length c0) by first | assumption | go_simp); have q1 := (hx3.cells (w.heap.size) (1) (by first | omega | (simp <;> omega))).trans (show _ = some (.slice a1 lg.length c1) by first | assumption | go_simp); have q2 := (hx3.cells (w.heap.size + 1) (0) (by first | omega | (simp <;> omega))).trans (show _ = some (.slice a2 n2 c2) by first | assumption | go_simp); have q3 := (hx3.cells (w.heap.size + 1) (1) (by first | omega | (simp <;> omega))).trans (show _ = some (.int .i64 d) by first | assumption | go_simp); have hz3 := hx3.size; (try simp at hz3); have hb3_0 : w.heap.size < w3.heap.size := (by omega); have hb3_1 : w.heap.size + 1 < w3.heap.size := (by omega)))
            | (go_at_call 54; go_must ((with_reducible refine (HF.out _ (by repeat (first | (with_reducible exact ext_refl _) | (with_reducible assumption) | (with_reducible refine ext_drew ?_) | (with_reducible refine ext_drewN ?_ _) | (with_reducible refine ext_alloc ?_ _) | (with_reducible refine ext_set ?_ (by first | omega | (simp <;> omega)) _) | (with_reducible refine ext_trans ?_ (by with_reducible assumption))))).mono ?_); rintro e w4 ⟨rfl, hx4⟩)))
          refine bodyPost_ret (v := .tuple #[.int .i64 ((pl + 1 : Nat) : Int), .int .i64 0]) (by simp [results, Try.results25, go_sem]) rfl ⟨rfl, (by repeat (first | (with_reducible exact ext_refl _) | (with_reducible assumption) | (with_reducible refine ext_drew ?_) | (with_reducible refine ext_drewN ?_ _) | (with_reducible refine ext_alloc ?_ _) | (with_reducible refine ext_set ?_ (by first | omega | (simp <;> omega)) _) | (with_reducible refine ext_trans ?_ (by with_reducible assumption))))⟩
        | false =>
          go_enter Try.func25, Try.ntmps25
          go_wp2_with (first
            | (go_at_call 16; go_must ((with_reducible refine (HC.out _ (by repeat (first | (with_reducible exact ext_refl _) | (with_reducible assumption) | (with_reducible refine ext_drew ?_) | (with_reducible refine ext_drewN ?_ _) | (with_reducible refine ext_alloc ?_ _) | (with_reducible refine ext_set ?_ (by first | omega | (simp <;> omega)) _) | (with_reducible refine ext_trans ?_ (by with_reducible assumption))))).mono ?_); rintro e w1 ⟨rfl, hx1⟩; have r0 := (hx1.cells (w.heap.size) (0) (by first | omega | (simp <;> omega))).trans (show _ = some (.slice a0 la.length c0) by first | assumption | go_simp); have r1 := (hx1.cells (w.heap.size) (1) (by first | omega | (simp <;> omega))).trans (show _ = some (.slice a1 lg.length c1) by first | assumption | go_simp); have r2 := (hx1.cells (w.heap.size + 1) (0) (by first | omega | (simp <;> omega))).trans (show _ = some (.slice a2 n2 c2) by first | assumption | go_simp); have r3 := (hx1.cells (w.heap.size + 1) (1) (by first | omega | (simp <;> omega))).trans (show _ = some (.int .i64 d) by first | assumption | go_simp); have hz1 := hx1.size; (try simp at hz1); have hb1_0 : w.heap.size < w1.heap.size := (by omega); have hb1_1 : w.heap.size + 1 < w1.heap.size := (by omega)))
            | (go_at_call 44; go_must ((with_reducible refine (HN.out _ (by repeat (first | (with_reducible exact ext_refl _) | (with_reducible assumption) | (with_reducible refine ext_drew ?_) | (with_reducible refine ext_drewN ?_ _) | (with_reducible refine ext_alloc ?_ _) | (with_reducible refine ext_set ?_ (by first | omega | (simp <;> omega)) _) | (with_reducible refine ext_trans ?_ (by with_reducible assumption))))).mono ?_); rintro e w2 ⟨rfl, hx2⟩; have s0 := (hx2.cells (w.heap.size) (0) (by first | omega | (simp <;> omega))).trans (show _ = some (.slice a0 la.length c0) by first | assumption | go_simp); have s1 := (hx2.cells (w.heap.size) (1) (by first | omega | (simp <;> omega))).trans (show _ = some (.slice a1 lg.length c1) by first | assumption | go_simp); have s2 := (hx2.cells (w.heap.size + 1) (0) (by first | omega | (simp <;> omega))).trans (show _ = some (.slice a2 n2 c2) by first | assumption | go_simp); have s3 := (hx2.cells (w.heap.size + 1) (1) (by first | omega | (simp <;> omega))).trans (show _ = some (.int .i64 d) by first | assumption | go_simp); have hz2 := hx2.size; (try simp at hz2); have hb2_0 : w.heap.size < w2.heap.size := (by omega); have hb2_1 : w.heap.size + 1 < w2.heap.size := (by omega)))
            | (go_at_call 45; go_must ((with_reducible refine (HK.out _ (by repeat (first | (with_reducible exact ext_refl _) | (with_reducible assumption) | (with_reducible refine ext_drew ?_) | (with_reducible refine ext_drewN ?_ _) | (with_reducible refine ext_alloc ?_ _) | (with_reducible refine ext_set ?_ (by first | omega | (simp <;> omega)) _) | (with_reducible refine ext_trans ?_ (by with_reducible assumption))))).mono ?_); rintro e w3 ⟨rfl, hx3⟩; have q0 := (hx3.cells (w.heap.size) (0) (by first | omega | (simp <;> omega))).trans (show _ = some (.slice a0 la.length c0) by first | assumption | go_simp); have q1 := (hx3.cells (w.heap.size) (1) (by first | omega | (simp <;> omega))).trans (show _ = some (.slice a1 lg.length c1) by first | assumption | go_simp); have q2 := (hx3.cells (w.heap.size + 1) (0) (by first | omega | (simp <;> omega))).trans (show _ = some (.slice a2 n2 c2) by first | assumption | go_simp); have q3 := (hx3.cells (w.heap.size + 1) (1) (by first | omega | (simp <;> omega))).trans (show _ = some (.int .i64 d) by first | assumption | go_simp); have hz3 := hx3.size; (try simp at hz3); have hb3_0 : w.heap.size < w3.heap.size := (by omega); have hb3_1 : w.heap.size + 1 < w3.heap.size := (by omega)))
            | (go_at_call 54; go_must ((with_reducible refine (HF.out _ (by repeat (first | (with_reducible exact ext_refl _) | (with_reducible assumption) | (with_reducible refine ext_drew ?_) | (with_reducible refine ext_drewN ?_ _) | (with_reducible refine ext_alloc ?_ _) | (with_reducible refine ext_set ?_ (by first | omega | (simp <;> omega)) _) | (with_reducible refine ext_trans ?_ (by with_reducible assumption))))).mono ?_); rintro e w4 ⟨rfl, hx4⟩)))
          refine bodyPost_ret (v := .tuple #[.int .i64 (pl : Int), .int .i64 0]) (by simp [results, Try.results25, go_sem]) rfl ⟨rfl, (by repeat (first | (with_reducible exact ext_refl _) | (with_reducible assumption) | (with_reducible refine ext_drew ?_) | (with_reducible refine ext_drewN ?_ _) | (with_reducible refine ext_alloc ?_ _) | (with_reducible refine ext_set ?_ (by first | omega | (simp <;> omega)) _) | (with_reducible refine ext_trans ?_ (by with_reducible assumption))))⟩
      · rw [caretAt_mark h0 hn h1]
        have t1 : (checkM (m, d) != 0) = true := by simpa using h1
        generalize checkM (m, d) = r at *
        clear h0 h1
        go_enter Try.func25, Try.ntmps25
        go_wp2_with (first
            | (go_at_call 16; go_must ((with_reducible refine (HC.out _ (by repeat (first | (with_reducible exact ext_refl _) | (with_reducible assumption) | (with_reducible refine ext_drew ?_) | (with_reducible refine ext_drewN ?_ _) | (with_reducible refine ext_alloc ?_ _) | (with_reducible refine ext_set ?_ (by first | omega | (simp <;> omega)) _) | (with_reducible refine ext_trans ?_ (by with_reducible assumption))))).mono ?_); rintro e w1 ⟨rfl, hx1⟩; have r0 := (hx1.cells (w.heap.size) (0) (by first | omega | (simp <;> omega))).trans (show _ = some (.slice a0 la.length c0) by first | assumption | go_simp); have r1 := (hx1.cells (w.heap.size) (1) (by first | omega | (simp <;> omega))).trans (show _ = some (.slice a1 lg.length c1) by first | assumption | go_simp); have r2 := (hx1.cells (w.heap.size + 1) (0) (by first | omega | (simp <;> omega))).trans (show _ = some (.slice a2 n2 c2) by first | assumption | go_simp); have r3 := (hx1.cells (w.heap.size + 1) (1) (by first | omega | (simp <;> omega))).trans (show _ = some (.int .i64 d) by first | assumption | go_simp); have hz1 := hx1.size; (try simp at hz1); have hb1_0 : w.heap.size < w1.heap.size := (by omega); have hb1_1 : w.heap.size + 1 < w1.heap.size := (by omega)))
            | (go_at_call 44; go_must ((with_reducible refine (HN.out _ (by repeat (first | (with_reducible exact ext_refl _) | (with_reducible assumption) | (with_reducible refine ext_drew ?_) | (with_reducible refine ext_drewN ?_ _) | (with_reducible refine ext_alloc ?_ _) | (with_reducible refine ext_set ?_ (by first | omega | (simp <;> omega)) _) | (with_reducible refine ext_trans ?_ (by with_reducible assumption))))).mono ?_); rintro e w2 ⟨rfl, hx2⟩; have s0 := (hx2.cells (w.heap.size) (0) (by first | omega | (simp <;> omega))).trans (show _ = some (.slice a0 la.length c0) by first | assumption | go_simp); have s1 := (hx2.cells (w.heap.size) (1) (by first | omega | (simp <;> omega))).trans (show _ = some (.slice a1 lg.length c1) by first | assumption | go_simp); have s2 := (hx2.cells (w.heap.size + 1) (0) (by first | omega | (simp <;> omega))).trans (show _ = some (.slice a2 n2 c2) by first | assumption | go_simp); have s3 := (hx2.cells (w.heap.size + 1) (1) (by first | omega | (simp <;> omega))).trans (show _ = some (.int .i64 d) by first | assumption | go_simp); have hz2 := hx2.size; (try simp at hz2); have hb2_0 : w.heap.size < w2.heap.size := (by omega); have hb2_1 : w.heap.size + 1 < w2.heap.size := (by omega)))
            | (go_at_call 45; go_must ((with_reducible refine (HK.out _ (by repeat (first | (with_reducible exact ext_refl _) | (with_reducible assumption) | (with_reducible refine ext_drew ?_) | (with_reducible refine ext_drewN ?_ _) | (with_reducible refine ext_alloc ?_ _) | (with_reducible refine ext_set ?_ (by first | omega | (simp <;> omega)) _) | (with_reducible refine ext_trans ?_ (by with_reducible assumption))))).mono ?_); rintro e w3 ⟨rfl, hx3⟩; have q0 := (hx3.cells (w.heap.size) (0) (by first | omega | (simp <;> omega))).trans (show _ = some (.slice a0 la.length c0) by first | assumption | go_simp); have q1 := (hx3.cells (w.heap.size) (1) (by first | omega | (simp <;> omega))).trans (show _ = some (.slice a1 lg.length c1) by first | assumption | go_simp); have q2 := (hx3.cells (w.heap.size + 1) (0) (by first | omega | (simp <;> omega))).trans (show _ = some (.slice a2 n2 c2) by first | assumption | go_simp); have q3 := (hx3.cells (w.heap.size + 1) (1) (by first | omega | (simp <;> omega))).trans (show _ = some (.int .i64 d) by first | assumption | go_simp); have hz3 := hx3.size; (try simp at hz3); have hb3_0 : w.heap.size < w3.heap.size := (by omega); have hb3_1 : w.heap.size + 1 < w3.heap.size := (by omega))))
        refine bodyPost_ret (v := .tuple #[.int .i64 0, .int .i64 r]) (by simp [results, Try.results25, go_sem]) rfl ⟨rfl, (by repeat (first | (with_reducible exact ext_refl _) | (with_reducible assumption) | (with_reducible refine ext_drew ?_) | (with_reducible refine ext_drewN ?_ _) | (with_reducible refine ext_alloc ?_ _) | (with_reducible refine ext_set ?_ (by first | omega | (simp <;> omega)) _) | (with_reducible refine ext_trans ?_ (by with_reducible assumption))))⟩
  · rw [caretAt_bad h0]
    have t1 : (checkS (la, lg) != 0) = true := by simpa using h0
    generalize checkS (la, lg) = r at *
    clear h0
    go_enter Try.func25, Try.ntmps25
    go_wp2_with (go_at_call 16; go_must ((with_reducible refine (HC.out _ (by repeat (first | (with_reducible exact ext_refl _) | (with_reducible assumption) | (with_reducible refine ext_drew ?_) | (with_reducible refine ext_drewN ?_ _) | (with_reducible refine ext_alloc ?_ _) | (with_reducible refine ext_set ?_ (by first | omega | (simp <;> omega)) _) | (with_reducible refine ext_trans ?_ (by with_reducible assumption))))).mono ?_); rintro e w1 ⟨rfl, hx1⟩; have r0 := (hx1.cells (w.heap.size) (0) (by first | omega | (simp <;> omega))).trans (show _ = some (.slice a0 la.length c0) by first | assumption | go_simp); have r1 := (hx1.cells (w.heap.size) (1) (by first | omega | (simp <;> omega))).trans (show _ = some (.slice a1 lg.length c1) by first | assumption | go_simp); have r2 := (hx1.cells (w.heap.size + 1) (0) (by first | omega | (simp <;> omega))).trans (show _ = some (.slice a2 n2 c2) by first | assumption | go_simp); have r3 := (hx1.cells (w.heap.size + 1) (1) (by first | omega | (simp <;> omega))).trans (show _ = some (.int .i64 d) by first | assumption | go_simp); have hz1 := hx1.size; (try simp at hz1); have hb1_0 : w.heap.size < w1.heap.size := (by omega); have hb1_1 : w.heap.size + 1 < w1.heap.size := (by omega)))
    refine bodyPost_ret (v := .tuple #[.int .i64 0, .int .i64 r]) (by simp [results, Try.results25, go_sem]) rfl ⟨rfl, (by repeat (first | (with_reducible exact ext_refl _) | (with_reducible assumption) | (with_reducible refine ext_drew ?_) | (with_reducible refine ext_drewN ?_ _) | (with_reducible refine ext_alloc ?_ _) | (with_reducible refine ext_set ?_ (by first | omega | (simp <;> omega)) _) | (with_reducible refine ext_trans ?_ (by with_reducible assumption))))⟩

end Go.Proofs.Ytfgfdohppgoajaa
/- Plain facts on carets. -/
namespace Go.Proofs.Ytfgfdohppgoajaa
open Go Go.RowKit Go.BigFrame Cp

theorem caretAt_ok' {s : St} {m : Mk} (h : checkS s = 0) (h2 : noneM m = false) (h3 : checkM m = 0) : caretAt s m = (((caretN s.1 m : Nat) : Int), 0) := by
  unfold caretAt; rw [if_neg (by simpa using h), if_neg (by rw [h2]; simp), if_neg (by simpa using h3)]
theorem check_none {m : Mk} (h : checkM m = 0) : noneM m = false := by
  have := check_ne h
  unfold noneM
  obtain ⟨p, c⟩ := m
  cases p with
  | nil => exact absurd rfl this
  | cons a r => rfl
theorem ord_zero {m : Mk} (h : checkM m = 0) : ordM ([], 0) m = -1 := by
  obtain ⟨p, c⟩ := m
  cases p with
  | nil => exact absurd rfl (check_ne h)
  | cons a r => unfold ordM ordP; rfl
theorem placeA_at {l : List At} (hs : SortedA l) {k : Nat} {a : At} (h : l[k]? = some a) : placeA l a.1 = k ∧ hasM l a.1 = true := by
  obtain ⟨hk, _⟩ := List.getElem?_eq_some_iff.1 h
  have hh : Halves l a.1 k k := by
    refine ⟨Nat.le_refl _, by omega, fun t b hb ht => ordM_lt.2 (sortedA_lt hs k b a t ht hb h), fun t b hb ht => ?_⟩
    rcases Nat.lt_or_eq_of_le ht with hlt | rfl
    · have h1 := sortedA_lt hs t a b k hlt h hb
      have h2 := ordM_anti a.1 b.1
      omega
    · rw [h] at hb
      have : a = b := by simpa using hb
      subst this
      rw [ordM_self]; omega
  refine ⟨halves_end hh, ?_⟩
  rw [hasM_near hs hh h, ordM_self]; rfl
/-- a place's caret: nothing, or the mark ahead -/
theorem caret_cases {s : St} {n : Int} (h : (caretOf s n).2 = 0) : checkS s = 0 ∧ ((n = 0 ∧ (caretOf s n).1 = ([], 0)) ∨ ∃ (k : Nat) (a : At), n = (k : Int) + 1 ∧ s.1[k]? = some a ∧ (caretOf s n).1 = a.1) := by
  by_cases h0 : checkS s = 0
  · refine ⟨h0, ?_⟩
    by_cases h1 : n < 0 ∨ (s.1.length : Int) < n
    · rw [caretOf_out h0 h1] at h; simp at h
    · by_cases h2 : n = 0
      · exact .inl ⟨h2, by rw [caretOf_zero h0 h2]⟩
      · refine .inr ⟨(n - 1).toNat, s.1[(n - 1).toNat]'(by omega), by omega, List.getElem?_eq_getElem (by omega), ?_⟩
        rw [caretOf_in (k := (n - 1).toNat) h0 (by omega) (List.getElem?_eq_getElem (by omega))]
  · rw [caretOf_bad h0] at h; exact absurd h h0
theorem caret_round {s : St} {n : Int} (h : (caretOf s n).2 = 0) : caretAt s (caretOf s n).1 = (n, 0) := by
  obtain ⟨h0, h1⟩ := caret_cases h
  have hok := checkA_ok (checkS_atomsOk h0)
  rcases h1 with ⟨rfl, e⟩ | ⟨k, a, rfl, ea, e⟩
  · rw [e, caretAt_none h0 rfl]
  · have hc := (hok.2.2 a (List.mem_of_getElem? ea)).1
    obtain ⟨h2, h3⟩ := placeA_at hok.2.1 ea
    rw [e, caretAt_ok' h0 (check_none hc) hc]
    unfold caretN
    rw [if_neg (by rw [check_none hc]; simp), h2, if_pos h3]
    rfl
theorem caret_order {s : St} {n k : Int} (h : (caretOf s n).2 = 0) (g : (caretOf s k).2 = 0) :
    (n < k ∧ ordM (caretOf s n).1 (caretOf s k).1 = -1) ∨ (n = k ∧ ordM (caretOf s n).1 (caretOf s k).1 = 0) ∨ (k < n ∧ ordM (caretOf s n).1 (caretOf s k).1 = 1) := by
  obtain ⟨h0, h1⟩ := caret_cases h
  obtain ⟨_, g1⟩ := caret_cases g
  have hok := checkA_ok (checkS_atomsOk h0)
  have hmk : ∀ (j : Nat) (a : At), s.1[j]? = some a → checkM a.1 = 0 := fun j a ha => (hok.2.2 a (List.mem_of_getElem? ha)).1
  rcases h1 with ⟨rfl, e⟩ | ⟨i, a, rfl, ea, e⟩ <;> rcases g1 with ⟨rfl, f⟩ | ⟨j, b, rfl, eb, f⟩
  · rw [e]; exact .inr (.inl ⟨rfl, rfl⟩)
  · rw [e, f]; exact .inl ⟨by omega, ord_zero (hmk j b eb)⟩
  · rw [e, f]
    have h2 := ord_zero (hmk i a ea)
    have h3 := ordM_anti ([], 0) a.1
    exact .inr (.inr ⟨by omega, by omega⟩)
  · rw [e, f]
    rcases Nat.lt_trichotomy i j with hlt | rfl | hgt
    · exact .inl ⟨by omega, sortedA_lt hok.2.1 j a b i hlt ea eb⟩
    · rw [ea] at eb
      have : a = b := by simpa using eb
      subst this
      exact .inr (.inl ⟨rfl, ordM_self _⟩)
    · have h2 := sortedA_lt hok.2.1 i b a j hgt eb ea
      have h3 := ordM_anti b.1 a.1
      exact .inr (.inr ⟨by omega, by omega⟩)
theorem at_round {s : St} {m : Mk} {n : Int} {w : World} {args : Array Value} (h : caretAt s m = (n, 0)) (k : Calls Try.prog 25 args w (IsTwo (caretAt s m).1 (caretAt s m).2 w)) : Calls Try.prog 25 args w (IsTwo n 0 w) := by
  rw [h] at k; exact k
theorem caretOf_none {s : St} {n : Int} (h : ¬ (caretOf s n).2 = 0) : (caretOf s n).1 = ([], 0) := by
  by_cases h0 : checkS s = 0
  · by_cases h1 : n < 0 ∨ (s.1.length : Int) < n
    · rw [caretOf_out h0 h1]
    · by_cases h2 : n = 0
      · rw [caretOf_zero h0 h2]
      · exfalso; apply h
        rw [caretOf_in (k := (n - 1).toNat) h0 (by omega) (List.getElem?_eq_getElem (by omega))]
  · rw [caretOf_bad h0]
end Go.Proofs.Ytfgfdohppgoajaa
/- Plain laws of deeds: in whatever order they are done; what is gone stays gone. -/
namespace Go.Proofs.Ytfgfdohppgoajaa
open Go Go.RowKit Cp

def takesB (d : De) (x : Mk) : Bool := !decide (d.kind = 1) && hasG (marksD d) x
def putsO (d : De) (x : Mk) : Option UInt8 := if d.kind = 1 then look (atomsR d.run) x else none
theorem look_has : ∀ (l : List At) (x : Mk), look l x = none ↔ hasM l x = false
  | [], x => by simp [look, hasM]
  | a :: r, x => by
    rw [look_cons, hasM_cons, Bool.or_eq_false_iff, ← look_has r x]
    unfold one
    by_cases h : ordM a.1 x = 0
    · rw [if_pos h, decide_eq_true h]
      cases look r x <;> simp [comb]
    · rw [if_neg h, decide_eq_false h]
      cases look r x <;> simp [comb]
theorem look_filter (g : List Mk) : ∀ (m : List At) (x : Mk), look (m.filter fun a => !hasG g a.1) x = if hasG g x = true then none else look m x
  | [], x => by simp [look]
  | a :: r, x => by
    rw [List.filter_cons]
    by_cases h : ordM a.1 x = 0
    · have e : a.1 = x := ordM_zero.1 h
      cases hg : hasG g x with
      | true =>
        rw [e, hg, if_neg (by simp), look_filter g r x, hg, if_pos rfl, if_pos rfl]
      | false =>
        rw [e, hg, if_pos (by simp), if_neg (by simp), look_cons, look_cons, look_filter g r x, hg, if_neg (by simp)]
    · have e1 : one a x = none := by unfold one; rw [if_neg h]
      have e2 : comb none (look r x) = look r x := by rw [comb_comm, comb_none]
      split
      · rw [look_cons, look_cons, look_filter g r x, e1, e2]
        split
        · rfl
        · rw [comb_comm, comb_none]
      · rw [look_cons, look_filter g r x, e1, e2]
theorem gone_deed (s : St) (d : De) (x : Mk) : hasG (doDeed s d).2 x = (hasG s.2 x || takesB d x) := by
  unfold doDeed takesB
  by_cases h : d.kind = 1
  · rw [if_pos h, decide_eq_true h]; simp
  · rw [if_neg h, decide_eq_false h]
    simp only [Bool.not_false, Bool.true_and]
    exact putGs_has _ _ _
theorem gone_look {s : St} (hs : RightS s) {x : Mk} (h : hasG s.2 x = true) : look s.1 x = none := (look_has _ _).2 (hs.2.2.2 x (hasG_iff.1 h))
theorem look_deed {s : St} {d : De} (hs : RightS s) (x : Mk) : look (doDeed s d).1 x = if hasG (doDeed s d).2 x = true then none else comb (look s.1 x) (putsO d x) := by
  rw [gone_deed]
  unfold doDeed putsO takesB
  by_cases h : d.kind = 1
  · rw [if_pos h, if_pos h, decide_eq_true h]
    simp only [Bool.not_true, Bool.false_and, Bool.or_false]
    rw [putNs_merge, look_merge, look_filter]
    by_cases hg : hasG s.2 x = true
    · rw [if_pos hg, if_pos hg, gone_look hs hg]; rfl
    · rw [if_neg hg, if_neg hg]
  · rw [if_neg h, if_neg h, decide_eq_false h, comb_none]
    simp only [Bool.not_false, Bool.true_and]
    have e : look (takeA s.1 (marksD d)) x = if hasG (marksD d) x = true then none else look s.1 x := look_filter _ _ _
    rw [e]
    by_cases hg : hasG s.2 x = true
    · rw [hg, Bool.true_or, if_pos rfl, gone_look hs hg]; split <;> rfl
    · have hg' : hasG s.2 x = false := by simpa using hg
      rw [hg', Bool.false_or]
def putsL (l : List De) (x : Mk) (o : Option UInt8) : Option UInt8 := l.foldl (fun o d => comb o (putsO d x)) o
theorem doDs_char : ∀ {l : List De} {s t : St}, RightS s → (∀ d ∈ l, checkD d = 0) → doDs s l = some t → ∀ x, hasG t.2 x = (hasG s.2 x || l.any fun d => takesB d x) ∧ look t.1 x = if hasG t.2 x = true then none else putsL l x (look s.1 x)
  | [], s, t, hs, _, h, x => by
    have e : s = t := by simpa [doDs] using h
    subst e
    refine ⟨by simp, ?_⟩
    by_cases hg : hasG s.2 x = true
    · rw [if_pos hg, gone_look hs hg]
    · rw [if_neg hg]; rfl
  | d :: l, s, t, hs, hd, h, x => by
    unfold doDs at h
    cases hm : tooMuch (doDeed s d) with
    | true => rw [hm, if_pos rfl] at h; cases h
    | false =>
      rw [hm, if_neg (by simp)] at h
      obtain ⟨i1, i2⟩ := doDs_char (doDeed_right hs (hd d (by simp))) (fun y hy => hd y (by simp [hy])) h x
      refine ⟨by rw [i1, gone_deed, List.any_cons, Bool.or_assoc], ?_⟩
      rw [i2]
      by_cases hg : hasG t.2 x = true
      · rw [if_pos hg, if_pos hg]
      · rw [if_neg hg, if_neg hg, look_deed hs]
        have hg2 : hasG (doDeed s d).2 x = false := by
          have : hasG t.2 x = false := by simpa using hg
          rw [i1, Bool.or_eq_false_iff] at this
          exact this.1
        rw [hg2, if_neg (by simp)]; rfl
def key : Option UInt8 → Nat
  | none => 256
  | some u => u.toNat
theorem key_inj {a b : Option UInt8} (h : key a = key b) : a = b := by
  cases a with
  | none =>
    cases b with
    | none => rfl
    | some v => simp only [key] at h; have := v.toNat_lt; omega
  | some u =>
    cases b with
    | none => simp only [key] at h; have := u.toNat_lt; omega
    | some v => simp only [key] at h; rw [UInt8.toNat_inj.1 h]
theorem key_comb (a b : Option UInt8) : key (comb a b) = min (key a) (key b) := by
  cases a with
  | none => cases b with
    | none => rfl
    | some v => simp only [comb, key]; have := v.toNat_lt; omega
  | some u => cases b with
    | none => simp only [comb, key]; have := u.toNat_lt; omega
    | some v => simp only [comb, key, mnS_toNat]
theorem le_puts (n : Nat) (x : Mk) : ∀ (l : List De) (o : Option UInt8), n ≤ key (putsL l x o) ↔ n ≤ key o ∧ ∀ d ∈ l, n ≤ key (putsO d x)
  | [], o => by simp [putsL]
  | d :: l, o => by
    have e : putsL (d :: l) x o = putsL l x (comb o (putsO d x)) := rfl
    rw [e, le_puts n x l, key_comb, Nat.le_min]
    simp only [List.mem_cons, forall_eq_or_imp, and_assoc]
theorem puts_sub {l m : List De} (hs : ∀ d ∈ m, d ∈ l) (x : Mk) (o : Option UInt8) : putsL (m ++ l) x o = putsL l x o := by
  refine key_inj (Nat.le_antisymm ?_ ?_)
  · refine (le_puts _ x l o).2 ?_
    have h := (le_puts (key (putsL (m ++ l) x o)) x (m ++ l) o).1 (Nat.le_refl _)
    exact ⟨h.1, fun d hd => h.2 d (by simp [hd])⟩
  · refine (le_puts _ x (m ++ l) o).2 ?_
    have h := (le_puts (key (putsL l x o)) x l o).1 (Nat.le_refl _)
    refine ⟨h.1, fun d hd => ?_⟩
    rcases List.mem_append.1 hd with hd | hd
    · exact h.2 d (hs d hd)
    · exact h.2 d hd
theorem goneG_eq : ∀ {l m : List Mk}, SortedG l → SortedG m → (∀ x, hasG l x = hasG m x) → l = m
  | [], [], _, _, _ => rfl
  | [], b :: m, _, _, h => by
    have h1 := h b
    rw [hasG_iff.2 (List.mem_cons_self ..)] at h1
    simp [hasG] at h1
  | a :: l, [], _, _, h => by
    have h1 := h a
    rw [hasG_iff.2 (List.mem_cons_self ..)] at h1
    simp [hasG] at h1
  | a :: l, b :: m, hl, hm, h => by
    have ha := sortedG_head hl
    have hb := sortedG_head hm
    have e : a = b := by
      have h1 := h a
      rw [hasG_iff.2 (List.mem_cons_self ..)] at h1
      have h2 := hasG_iff.1 h1.symm
      rcases List.mem_cons.1 h2 with rfl | h2
      · rfl
      · have h3 := h b
        rw [hasG_iff.2 (List.mem_cons_self ..)] at h3
        rcases List.mem_cons.1 (hasG_iff.1 h3) with rfl | h4
        · rfl
        · have h5 := hb a h2
          have h6 := ha b h4
          have h7 := ordM_anti a b
          omega
    subst e
    refine congrArg (a :: ·) (goneG_eq (sortedG_tail hl) (sortedG_tail hm) (fun x => ?_))
    have hx := h x
    rw [hasG_cons, hasG_cons] at hx
    by_cases hax : ordM a x = 0
    · have e : a = x := ordM_zero.1 hax
      subst e
      have h1 : hasG l a = false := by
        cases h9 : hasG l a with
        | false => rfl
        | true => have h8 := ha a (hasG_iff.1 h9); rw [hax] at h8; omega
      have h2 : hasG m a = false := by
        cases h9 : hasG m a with
        | false => rfl
        | true => have h8 := hb a (hasG_iff.1 h9); rw [hax] at h8; omega
      rw [h1, h2]
    · rw [decide_eq_false hax, Bool.false_or, Bool.false_or] at hx
      exact hx
/-- in whatever order, and again -/
theorem doDs_any {s a b : St} {l m : List De} (hs : FitS s) (hd : ∀ d ∈ l, checkD d = 0) (hm : ∀ d ∈ m, d ∈ l) (ha : doDs s l = some a) (hb : doDs s (m ++ l) = some b) : a = b := by
  have hd2 : ∀ d ∈ m ++ l, checkD d = 0 := fun d h => by
    rcases List.mem_append.1 h with h | h
    · exact hd d (hm d h)
    · exact hd d h
  have fa := doDs_fit hs hd ha
  have fb := doDs_fit hs hd2 hb
  have ca := doDs_char hs.1 hd ha
  have cb := doDs_char hs.1 hd2 hb
  have hany : ∀ x, ((m ++ l).any fun d => takesB d x) = l.any fun d => takesB d x := fun x => by
    rw [List.any_append]
    cases h1 : m.any fun d => takesB d x with
    | false => simp
    | true =>
      obtain ⟨d, hd3, h2⟩ := List.any_eq_true.1 h1
      rw [Bool.true_or]
      exact (List.any_eq_true.2 ⟨d, hm d hd3, h2⟩).symm
  have hg : ∀ x, hasG a.2 x = hasG b.2 x := fun x => by rw [(ca x).1, (cb x).1, hany]
  have h2 : a.2 = b.2 := goneG_eq fa.1.2.1 fb.1.2.1 hg
  have h1 : a.1 = b.1 := look_eq fa.1.1.1 fb.1.1.1 (fun x => by rw [(ca x).2, (cb x).2, hg x, puts_sub hm])
  exact Prod.ext h1 h2
theorem allE_any {s : St} {l m : List De} (h : allE s l = 0) (hm : ∀ d ∈ m, d ∈ l) : allE s (m ++ l) = 2 ∨ (allE s (m ++ l) = 0 ∧ allV s (m ++ l) = allV s l) := by
  obtain ⟨h1, h2, h3⟩ := allE_ok.1 h
  have hd2 : ∀ d ∈ m ++ l, checkD d = 0 := fun d h => by
    rcases List.mem_append.1 h with h | h
    · exact h2 d (hm d h)
    · exact h2 d h
  cases hb : doDs s (m ++ l) with
  | none =>
    left
    unfold allE
    rw [if_neg (by simpa using checkS_fit.2 h1), if_neg (by simpa using checkDL_ok.2 hd2), if_pos hb]
  | some b =>
    right
    have e0 : allE s (m ++ l) = 0 := allE_ok.2 ⟨h1, hd2, by rw [hb]; simp⟩
    refine ⟨e0, ?_⟩
    cases ha : doDs s l with
    | none => exact absurd ha h3
    | some a =>
      unfold allV
      rw [if_pos e0, if_pos h, ha, hb]
      exact (doDs_any h1 h2 hm ha hb).symm
theorem allV_fit {s : St} {l : List De} (h : allE s l = 0) : FitS (allV s l) := by
  obtain ⟨h1, h2, h3⟩ := allE_ok.1 h
  cases ha : doDs s l with
  | none => exact absurd ha h3
  | some a => unfold allV; rw [if_pos h, ha]; exact doDs_fit h1 h2 ha
/-- what is gone stays so; what is there was there, or was put -/
theorem allV_gone {s : St} {l : List De} (h : allE s l = 0) {m : Mk} (hm : m ∈ s.2) : hasG (allV s l).2 m = true ∧ hasM (allV s l).1 m = false := by
  obtain ⟨h1, h2, h3⟩ := allE_ok.1 h
  cases ha : doDs s l with
  | none => exact absurd ha h3
  | some a =>
    have e : allV s l = a := by unfold allV; rw [if_pos h, ha]; rfl
    have hg : hasG a.2 m = true := by rw [(doDs_char h1.1 h2 ha m).1, hasG_iff.2 hm, Bool.true_or]
    rw [e]
    exact ⟨hg, (doDs_fit h1 h2 ha).1.2.2.2 m (hasG_iff.1 hg)⟩
theorem allV_was {s : St} {l : List De} (h : allE s l = 0) {m : Mk} (hm : hasM (allV s l).1 m = true) : hasM s.1 m = true ∨ ∃ d ∈ l, d.kind = 1 ∧ m ∈ marksD d := by
  obtain ⟨h1, h2, h3⟩ := allE_ok.1 h
  cases ha : doDs s l with
  | none => exact absurd ha h3
  | some a =>
    have e : allV s l = a := by unfold allV; rw [if_pos h, ha]; rfl
    rw [e] at hm
    have hl : look a.1 m ≠ none := fun h9 => by rw [(look_has _ _).1 h9] at hm; cases hm
    rw [(doDs_char h1.1 h2 ha m).2] at hl
    by_cases hs : hasM s.1 m = true
    · exact .inl hs
    · right
      have hs' : look s.1 m = none := (look_has _ _).2 (by simpa using hs)
      by_cases hg : hasG a.2 m = true
      · rw [if_pos hg] at hl; exact absurd rfl hl
      · rw [if_neg hg, hs'] at hl
        refine Classical.byContradiction fun hno => hl (key_inj (Nat.le_antisymm (by
          generalize putsL l m none = o
          cases o with
          | none => exact Nat.le_refl _
          | some u => have := u.toNat_lt; simp only [key]; omega) ((le_puts _ m l none).2 ⟨Nat.le_refl _, fun d hd => ?_⟩)))
        have : putsO d m = none := by
          unfold putsO
          by_cases hk : d.kind = 1
          · rw [if_pos hk]
            refine (look_has _ _).2 ?_
            cases h9 : hasM (atomsR d.run) m with
            | false => rfl
            | true =>
              obtain ⟨x, hx, rfl⟩ := hasM_iff.1 h9
              exact absurd ⟨d, hd, hk, by unfold marksD; rw [if_pos hk, ← atoms_marks]; exact List.mem_map.2 ⟨x, hx, rfl⟩⟩ hno
          · rw [if_neg hk]
        rw [this]; exact Nat.le_refl _
end Go.Proofs.Ytfgfdohppgoajaa
/- A caret stays behind its sign: plain. -/
namespace Go.Proofs.Ytfgfdohppgoajaa
open Go Go.RowKit Go.BigFrame Cp

theorem count_front {p : At → Bool} : ∀ {l : List At}, (∀ (i j : Nat) (a b : At), i < j → l[i]? = some a → l[j]? = some b → p b = true → p a = true) → ∀ {h : Nat} {b : At}, l[h]? = some b → (h < l.countP p ↔ p b = true)
  | [], _, h, b, e => by simp at e
  | x :: r, mono, h, b, e => by
    have hr : ∀ (i j : Nat) (a b : At), i < j → r[i]? = some a → r[j]? = some b → p b = true → p a = true := fun i j a b hij ha hb hp => mono (i + 1) (j + 1) a b (by omega) (by simpa using ha) (by simpa using hb) hp
    cases hx : p x with
    | true =>
      rw [List.countP_cons_of_pos hx]
      cases h with
      | zero => simp at e; subst e; simp [hx]
      | succ h => rw [List.getElem?_cons_succ] at e; rw [← count_front hr e]; omega
    | false =>
      have hz : r.countP p = 0 := by
        rw [List.countP_eq_zero]
        intro y hy hp
        obtain ⟨j, hj⟩ := List.getElem?_of_mem hy
        have := mono 0 (j + 1) x y (by omega) rfl (by simpa using hj) hp
        rw [hx] at this; cases this
      rw [List.countP_cons_of_neg (by rw [hx]; simp), hz]
      cases h with
      | zero => simp at e; subst e; simp [hx]
      | succ h =>
        have : p b = false := by
          cases hb : p b with
          | false => rfl
          | true => have := mono 0 (h + 1) x b (by omega) rfl e hb; rw [hx] at this; cases this
        simp [this]
theorem caretN_lt {l : List At} {m : Mk} (hs : SortedA l) (hn : noneM m = false) {h : Nat} {b : At} (e : l[h]? = some b) : h < caretN l m ↔ ordM b.1 m ≤ 0 := by
  rw [caretN_count hs hn, count_front (p := fun a => decide (ordM a.1 m ≤ 0)) (fun i j a b hij ha hb hp => ?_) e, decide_eq_true_iff]
  simp only [decide_eq_true_eq] at hp ⊢
  have h1 := sortedA_lt hs j a b i hij ha hb
  rcases ordM_range b.1 m with h2 | h2 | h2
  · have := ordM_trans h1 h2; omega
  · rw [ordM_zero.1 h2] at h1; omega
  · omega
theorem caretN_le (l : List At) (m : Mk) (hs : SortedA l) : caretN l m ≤ l.length := by
  cases hn : noneM m with
  | true => unfold caretN; rw [if_pos hn]; exact Nat.zero_le _
  | false => rw [caretN_count hs hn]; exact List.countP_le_length
theorem allV_stays {s : St} {l : List De} (h : allE s l = 0) {m : Mk} (hm : hasM s.1 m = true) (hg : hasG (allV s l).2 m = false) : hasM (allV s l).1 m = true := by
  obtain ⟨h1, h2, h3⟩ := allE_ok.1 h
  cases ha : doDs s l with
  | none => exact absurd ha h3
  | some a =>
    have e : allV s l = a := by unfold allV; rw [if_pos h, ha]; rfl
    rw [e] at hg ⊢
    cases hh : hasM a.1 m with
    | true => rfl
    | false =>
      exfalso
      have hl := (look_has _ _).2 hh
      rw [(doDs_char h1.1 h2 ha m).2, hg, if_neg (by simp)] at hl
      have h4 := ((le_puts _ m l (look s.1 m)).1 (Nat.le_refl _)).1
      rw [hl] at h4
      cases h5 : look s.1 m with
      | none => rw [(look_has _ _).1 h5] at hm; cases hm
      | some u => rw [h5] at h4; simp only [key] at h4; have := u.toNat_lt; omega
theorem caret_stays {s : St} {n : Int} {l : List De} (h : (caretOf s n).2 = 0) (h0 : allE s l = 0) :
    ∃ k : Nat, caretAt (allV s l) (caretOf s n).1 = ((k : Int), 0) ∧ k ≤ (allV s l).1.length ∧
      (∀ (i j : Nat) (a b : At), s.1[i]? = some a → (allV s l).1[j]? = some b → (ordM a.1 b.1 == 0) = true → decide (j < k) = decide ((i : Int) < n)) ∧
      (n = 0 ∨ ((n == 0) = false ∧ (hasG (allV s l).2 (caretOf s n).1 = true ∨ (hasG (allV s l).2 (caretOf s n).1 = false ∧ ∃ (q : Nat) (u : UInt8), k = q + 1 ∧ (allV s l).1[q]? = some ((caretOf s n).1, u))))) := by
  obtain ⟨hc, h1⟩ := caret_cases h
  have hf := allV_fit h0
  have hct := checkS_fit.2 hf
  have hst : SortedA (allV s l).1 := (checkA_ok (checkS_atomsOk hct)).2.1
  have hok := checkA_ok (checkS_atomsOk hc)
  have hstay := fun m => allV_stays h0 (m := m)
  generalize allV s l = t at *
  rcases h1 with ⟨rfl, e⟩ | ⟨j, a, rfl, ea, e⟩
  · rw [e]
    refine ⟨0, caretAt_none hct rfl, Nat.zero_le _, fun i j a b _ _ _ => ?_, .inl rfl⟩
    rw [decide_eq_false (by omega), decide_eq_false (by omega)]
  · have hca := (hok.2.2 a (List.mem_of_getElem? ea)).1
    have hnn := check_none hca
    rw [e]
    refine ⟨caretN t.1 a.1, caretAt_ok' hct hnn hca, caretN_le _ _ hst, fun i g x b ex eb ho => ?_, .inr ⟨by rw [beq_eq_false_iff_ne]; omega, ?_⟩⟩
    · have hxb : x.1 = b.1 := ordM_zero.1 (by simpa using ho)
      have h2 := caretN_lt hst hnn eb
      have h3 : (i : Int) < (j : Int) + 1 ↔ ordM x.1 a.1 ≤ 0 := by
        rcases Nat.lt_trichotomy i j with hlt | rfl | hgt
        · have := sortedA_lt hok.2.1 j x a i hlt ex ea
          omega
        · rw [ea] at ex
          have : a = x := by simpa using ex
          subst this
          rw [ordM_self]; omega
        · have := sortedA_lt hok.2.1 i a x j hgt ea ex
          have := ordM_anti a.1 x.1
          omega
      rw [hxb] at h3
      exact decide_eq_decide.2 (h2.trans h3.symm)
    · cases hg : hasG t.2 a.1 with
      | true => exact .inl rfl
      | false =>
        right
        refine ⟨rfl, ?_⟩
        have hm := hstay a.1 (placeA_at hok.2.1 ea).2 hg
        obtain ⟨b, hb, hba⟩ := hasM_iff.1 hm
        obtain ⟨q, hq⟩ := List.getElem?_of_mem hb
        have h4 := placeA_at hst hq
        rw [hba] at h4
        refine ⟨q, b.2, ?_, ?_⟩
        · unfold caretN; rw [if_neg (by rw [hnn]; simp), h4.1, if_pos hm]
        · rw [hq, ← hba]
end Go.Proofs.Ytfgfdohppgoajaa
/- What must be in any case, of carets. -/
namespace Go.Proofs.Ytfgfdohppgoajaa
open Go Go.RowKit Go.BigFrame Cp

theorem hi_checkS : checkS (hiL, []) = 0 := by decide
theorem hi_of : caretOf (hiL, []) 1 = (([(3, 0)], 1), 0) := by decide
theorem hi_at : caretAt (hiL, []) ([(3, 0)], 1) = (1, 0) := by decide
theorem hi_at0 : caretAt (hiL, []) ([], 0) = (0, 0) := by decide
theorem begun_same3 {F G : Nat → Prop} {w : World} {cs ds : List Value} (ha : RMk F w cs ([(3, 0)], 1)) (hb : RMk G w ds ([(3, 0)], 1)) : Calls Try.prog 26 #[.agg cs.toArray, .agg ds.toArray] w fun e w' => e = .returned (.bool true) ∧ Ext w w' := by
  have h1 := same_any ha hb
  have e : (ordM (([(3, 0)], 1) : Mk) ([(3, 0)], 1) == 0) = true := by decide
  rw [e] at h1
  exact h1
abbrev m3 : Mk := ([(3, 0)], 1)
theorem begun_of {F : Nat → Prop} {w : World} {cs : List Value} (h : RSt F w cs (hiL, [])) : Calls Try.prog 24 #[.agg cs.toArray, .int .i64 1] w (IsMarkE m3 0 w) := by
  have h1 := ofCaret_any (n := 1) h (i64_small (by simp) (by simp))
  rw [hi_of] at h1
  exact h1
theorem begun_at {F G : Nat → Prop} {w : World} {cs ds : List Value} (h : RSt F w cs (hiL, [])) (k : RMk G w ds m3) : Calls Try.prog 25 #[.agg cs.toArray, .agg ds.toArray] w (IsTwo 1 0 w) := by
  have h1 := atCaret_any h k
  rw [hi_at] at h1
  exact h1
theorem begun_at0 {F : Nat → Prop} {w : World} {cs : List Value} (h : RSt F w cs (hiL, [])) : Calls Try.prog 25 #[.agg cs.toArray, .agg #[.slice none 0 0, .int .i64 0]] w (IsTwo 0 0 w) := by
  have h1 := atCaret_any h (rmk_zero (F := fun _ => True))
  rw [hi_at0] at h1
  exact h1
set_option maxRecDepth 100000 in
set_option maxHeartbeats 4000000 in
theorem caretBegun_any (w : World) : Calls Try.prog 23 #[] w fun e w' => e = .returned (.bool true) ∧ Ext w w' := by
  go_enter Try.func23, Try.ntmps23
  go_wp2_with (first
    | (go_at_call 42; go_must ((with_reducible refine (hi_any _).mono ?_); rintro e w1 ⟨v1, rfl, hv1, hx1⟩; obtain ⟨a1, n1, c1, rfl⟩ := hv1.slice; obtain rfl : n1 = 2 := hv1.len.1; have HV1 := Lib.hid hv1; clear hv1; have hz1 := hx1.size))
    | (go_at_call 24; go_must ((with_reducible refine (begun_of (rst_of (HV1.out.ext gAt (by repeat (first | (with_reducible exact ext_refl _) | (with_reducible assumption) | (with_reducible refine ext_drew ?_) | (with_reducible refine ext_drewN ?_ _) | (with_reducible refine ext_alloc ?_ _) | (with_reducible refine ext_set ?_ (by first | omega | (simp <;> omega)) _) | (with_reducible refine ext_trans ?_ (by with_reducible assumption))))) (RSl.nil_ (a := none) (Nat.zero_le _)))).mono ?_); rintro e w2 ⟨cs2, rfl, hm2, hx2⟩; obtain ⟨v2, rfl, hv2, hi2⟩ := hm2; obtain ⟨a2, n2, c2, rfl⟩ := hv2.slice; obtain rfl : n2 = 1 := hv2.len.1; have HV2 := Lib.hid hv2; clear hv2; have hz2 := hx2.size; (try simp at hz2); have hb2 : w1.heap.size < w2.heap.size := (by omega); have r0 := (hx2.cells (w1.heap.size) (0) (by first | omega | (simp <;> omega))).trans (show _ = some (.slice a1 2 c1) by first | assumption | go_simp); have r1 := (hx2.cells (w1.heap.size) (1) (by first | omega | (simp <;> omega))).trans (show _ = some (.slice none 0 0) by first | assumption | go_simp)))
    | (go_at_call 25; ((with_reducible refine (begun_at (rst_of (HV1.out.ext gAt (by repeat (first | (with_reducible exact ext_refl _) | (with_reducible assumption) | (with_reducible refine ext_drew ?_) | (with_reducible refine ext_drewN ?_ _) | (with_reducible refine ext_alloc ?_ _) | (with_reducible refine ext_set ?_ (by first | omega | (simp <;> omega)) _) | (with_reducible refine ext_trans ?_ (by with_reducible assumption))))) (RSl.nil_ (a := none) (Nat.zero_le _))) (rmk_of' (c := 1) (HV2.out.ext gStp (by repeat (first | (with_reducible exact ext_refl _) | (with_reducible assumption) | (with_reducible refine ext_drew ?_) | (with_reducible refine ext_drewN ?_ _) | (with_reducible refine ext_alloc ?_ _) | (with_reducible refine ext_set ?_ (by first | omega | (simp <;> omega)) _) | (with_reducible refine ext_trans ?_ (by with_reducible assumption))))) (i64_small (by simp) (by simp)))).mono ?_); rintro e w3 ⟨rfl, hx3⟩; have hz3 := hx3.size; (try simp at hz3); have hb3 : w1.heap.size < w3.heap.size := (by omega); have hb3' : w2.heap.size < w3.heap.size := (by omega); have s0 := (hx3.cells (w1.heap.size) (0) (by first | omega | (simp <;> omega))).trans (show _ = some (.slice a1 2 c1) by first | assumption | go_simp); have s1 := (hx3.cells (w1.heap.size) (1) (by first | omega | (simp <;> omega))).trans (show _ = some (.slice none 0 0) by first | assumption | go_simp); have s2 := (hx3.cells (w2.heap.size) (0) (by first | omega | (simp <;> omega))).trans (show _ = some (.slice a2 1 c2) by first | assumption | go_simp); have s3 := (hx3.cells (w2.heap.size) (1) (by first | omega | (simp <;> omega))).trans (show _ = some (.int .i64 1) by first | assumption | go_simp)))
    | (go_at_call 25; go_must ((with_reducible refine (begun_at0 (rst_of (HV1.out.ext gAt (by repeat (first | (with_reducible exact ext_refl _) | (with_reducible assumption) | (with_reducible refine ext_drew ?_) | (with_reducible refine ext_drewN ?_ _) | (with_reducible refine ext_alloc ?_ _) | (with_reducible refine ext_set ?_ (by first | omega | (simp <;> omega)) _) | (with_reducible refine ext_trans ?_ (by with_reducible assumption))))) (RSl.nil_ (a := none) (Nat.zero_le _)))).mono ?_); rintro e w4 ⟨rfl, hx4⟩; have hz4 := hx4.size; (try simp at hz4); have hb4 : w1.heap.size < w4.heap.size := (by omega); have hb4' : w2.heap.size < w4.heap.size := (by omega); have t0 := (hx4.cells (w1.heap.size) (0) (by first | omega | (simp <;> omega))).trans (show _ = some (.slice a1 2 c1) by first | assumption | go_simp); have t1 := (hx4.cells (w1.heap.size) (1) (by first | omega | (simp <;> omega))).trans (show _ = some (.slice none 0 0) by first | assumption | go_simp); have t2 := (hx4.cells (w2.heap.size) (0) (by first | omega | (simp <;> omega))).trans (show _ = some (.slice a2 1 c2) by first | assumption | go_simp); have t3 := (hx4.cells (w2.heap.size) (1) (by first | omega | (simp <;> omega))).trans (show _ = some (.int .i64 1) by first | assumption | go_simp))))
  refine wp_name (fun w5 ew5 => ?_)
  have k0 : w5.cell? ⟨w2.heap.size, 0, none⟩ = some (.slice a2 1 c2) := by rw [ew5]; go_simp
  have k1 : w5.cell? ⟨w2.heap.size, 1, none⟩ = some (.int .i64 1) := by rw [ew5]; go_simp
  have zw5_0 : w2.heap.size < w5.heap.size := by rw [ew5]; first | assumption | omega | (simp <;> omega)
  have hw5 : Ext w2 w5 := by rw [ew5]; exact (by repeat (first | (with_reducible exact ext_refl _) | (with_reducible assumption) | (with_reducible refine ext_drew ?_) | (with_reducible refine ext_drewN ?_ _) | (with_reducible refine ext_alloc ?_ _) | (with_reducible refine ext_set ?_ (by first | omega | (simp <;> omega)) _) | (with_reducible refine ext_trans ?_ (by with_reducible assumption))))
  have HV5 := Lib.hid (HV2.out.ext gStp hw5)
  have hw55 : Ext w w5 := ext_trans (by repeat (first | (with_reducible exact ext_refl _) | (with_reducible assumption) | (with_reducible refine ext_drew ?_) | (with_reducible refine ext_drewN ?_ _) | (with_reducible refine ext_alloc ?_ _) | (with_reducible refine ext_set ?_ (by first | omega | (simp <;> omega)) _) | (with_reducible refine ext_trans ?_ (by with_reducible assumption)))) hw5
  clear ew5 hw5 hx1 hx2 hx3 hx4 HV2 HV1
  go_region_held3 (fun W => W.cell? ⟨w2.heap.size, 0, none⟩ = some (.slice a2 1 c2) ∧ W.cell? ⟨w2.heap.size, 1, none⟩ = some (.int .i64 1))
    (first | go_keep | (refine ⟨?_, ?_⟩ <;> (rw [hx7.cells _ _ (by first | omega | (simp <;> omega))]; first | assumption | go_simp)) | (refine ⟨?_, ?_⟩ <;> (rw [hx6.cells _ _ (by first | omega | (simp <;> omega))]; go_simp)))
    (first
    | go_at_call 40; ((with_reducible refine (at_any 3 0 1 (i64_small (by simp) (by simp)) (i64_small (by simp) (by simp)) (i64_small (by simp) (by simp)) _).mono ?_); rintro e w6 ⟨cs6, rfl, hm6, hx6⟩; obtain ⟨v6, rfl, hv6, hi6⟩ := hm6; obtain ⟨a6, n6, c6, rfl⟩ := hv6.slice; obtain rfl : n6 = 1 := hv6.len.1; have HV6 := Lib.hid hv6; clear hv6 hi6; have hz6 := hx6.size; (try simp at hz6); have hb6 : w2.heap.size < w6.heap.size := (by omega); have k20 := (hx6.cells w2.heap.size 0 (by first | omega | (simp <;> omega))).trans (show _ = some (.slice a2 1 c2) by first | assumption | go_simp); have k21 := (hx6.cells w2.heap.size 1 (by first | omega | (simp <;> omega))).trans (show _ = some (.int .i64 1) by first | assumption | go_simp))
    | (go_at_call 26; go_must ((with_reducible refine (begun_same3 (rmk_of' (c := 1) (HV5.out.ext gStp (by repeat (first | (with_reducible exact ext_refl _) | (with_reducible assumption) | (with_reducible refine ext_drew ?_) | (with_reducible refine ext_drewN ?_ _) | (with_reducible refine ext_alloc ?_ _) | (with_reducible refine ext_set ?_ (by first | omega | (simp <;> omega)) _) | (with_reducible refine ext_trans ?_ (by with_reducible assumption))))) (i64_small (by simp) (by simp))) (rmk_of' (c := 1) (HV6.out.ext gStp (by repeat (first | (with_reducible exact ext_refl _) | (with_reducible assumption) | (with_reducible refine ext_drew ?_) | (with_reducible refine ext_drewN ?_ _) | (with_reducible refine ext_alloc ?_ _) | (with_reducible refine ext_set ?_ (by first | omega | (simp <;> omega)) _) | (with_reducible refine ext_trans ?_ (by with_reducible assumption))))) (i64_small (by simp) (by simp)))).mono ?_); rintro e w7 ⟨rfl, hx7⟩; have hz7 := hx7.size; (try simp at hz7); have hb7 : w2.heap.size < w7.heap.size := (by omega))))
  all_goals go_wp2_with fail
  all_goals go_ret
  all_goals exact ⟨rfl, (by repeat (first | (with_reducible exact ext_refl _) | (with_reducible assumption) | (with_reducible refine ext_drew ?_) | (with_reducible refine ext_drewN ?_ _) | (with_reducible refine ext_alloc ?_ _) | (with_reducible refine ext_set ?_ (by first | omega | (simp <;> omega)) _) | (with_reducible refine ext_trans ?_ (by with_reducible assumption))))⟩
end Go.Proofs.Ytfgfdohppgoajaa
