/- Carets: a mark of a place, a place of a mark. -/
import Derived.Test.YthkhkbjkbpgaoaaA6
import Derived.Test.YthkhkbjkbpgaoaaW7
import Derived.Test.YthkhkbjkbpgaoaaW10
set_option linter.unusedVariables false
set_option linter.unusedSimpArgs false
namespace Go.Proofs.Ythkhkbjkbpgaoaa
open Go Go.RowKit Go.BigFrame Cp

def caretOf (s : St) (n : Int) : Mk × Int :=
  if checkS s ≠ 0 then (([], 0), checkS s) else if n < 0 ∨ (s.1.length : Int) < n then (([], 0), 3) else if n = 0 then (([], 0), 0) else (((s.1[(n - 1).toNat]?).map (·.1)).getD ([], 0), 0)
/-- where a caret is -/
def caretN (l : List At) (m : Mk) : Nat := if noneM m = true then 0 else placeA l m + (if hasM l m = true then 1 else 0)
def caretAt (s : St) (m : Mk) : Int × Int :=
  if checkS s ≠ 0 then (0, checkS s) else if noneM m = true then (0, 0) else if checkM m ≠ 0 then (0, checkM m) else ((caretN s.1 m : Nat), 0)

theorem sortedA_tail {a : At} {l : List At} (h : SortedA (a :: l)) : SortedA l := by
  cases l with
  | nil => trivial
  | cons b r => exact h.2
theorem count_zero {m : Mk} : ∀ {l : List At}, SortedA l → l.countP (fun a => decide (ordM a.1 m = 0)) = if hasM l m = true then 1 else 0
  | [], _ => by simp [hasM]
  | a :: l, h => by
    have ih := count_zero (m := m) (sortedA_tail h)
    have e1 : hasM (a :: l) m = (decide (ordM a.1 m = 0) || hasM l m) := by simp [hasM]
    by_cases h0 : ordM a.1 m = 0
    · have e2 : l.countP (fun a => decide (ordM a.1 m = 0)) = 0 := by
        rw [List.countP_eq_zero]
        intro b hb
        obtain ⟨t, ht, e⟩ := List.mem_iff_getElem.1 hb
        have h3 := sortedA_lt h (t + 1) a b 0 (by omega) rfl (by rw [List.getElem?_cons_succ, List.getElem?_eq_getElem ht, e])
        have hm := ordM_zero.1 h0
        have h4 := ordM_anti a.1 b.1
        rw [hm] at h3 h4
        simp; omega
      rw [List.countP_cons, e2, e1]
      simp [h0]
    · rw [List.countP_cons, ih, e1]
      simp [h0]
theorem count_le (l : List At) (m : Mk) : l.countP (fun a => decide (ordM a.1 m ≤ 0)) = placeA l m + l.countP (fun a => decide (ordM a.1 m = 0)) := by
  unfold placeA
  induction l with
  | nil => simp
  | cons a l ih =>
    rw [List.countP_cons, List.countP_cons, List.countP_cons, ih]
    have := ordM_range a.1 m
    rcases this with h | h | h <;> simp [h] <;> omega
theorem caretN_count {l : List At} {m : Mk} (hs : SortedA l) (h : noneM m = false) : caretN l m = l.countP (fun a => decide (ordM a.1 m ≤ 0)) := by
  unfold caretN
  rw [if_neg (by rw [h]; simp), count_le, count_zero hs]
theorem countP_step {α : Type} {p : α → Bool} {l : List α} {k : Nat} {a : α} (h : l[k]? = some a) : (l.take (k + 1)).countP p = (l.take k).countP p + (if p a = true then 1 else 0) := by
  obtain ⟨h1, h2⟩ := List.getElem?_eq_some_iff.1 h
  rw [List.take_succ_eq_append_getElem h1, h2, List.countP_append]; simp [List.countP_cons]
theorem countP_take_le {α : Type} {p : α → Bool} {l : List α} {k : Nat} : (l.take k).countP p ≤ k := Nat.le_trans List.countP_le_length (by rw [List.length_take]; omega)
section
variable {s : St} {n : Int} {m : Mk}
theorem caretOf_bad (h : ¬ checkS s = 0) : caretOf s n = (([], 0), checkS s) := by unfold caretOf; rw [if_pos h]
theorem caretOf_out (h : checkS s = 0) (h2 : n < 0 ∨ (s.1.length : Int) < n) : caretOf s n = (([], 0), 3) := by unfold caretOf; rw [if_neg (by simpa using h), if_pos h2]
theorem caretOf_zero (h : checkS s = 0) (h2 : n = 0) : caretOf s n = (([], 0), 0) := by unfold caretOf; rw [if_neg (by simpa using h), if_neg (by omega), if_pos h2]
theorem caretOf_in {a : At} {k : Nat} (h : checkS s = 0) (h2 : n = (k : Int) + 1) (h3 : s.1[k]? = some a) : caretOf s n = (a.1, 0) := by
  obtain ⟨h4, _⟩ := List.getElem?_eq_some_iff.1 h3
  have e : (n - 1).toNat = k := by omega
  unfold caretOf; rw [if_neg (by simpa using h), if_neg (by omega), if_neg (by omega), e, h3]; rfl
theorem checkS_atomsOk (h : checkS s = 0) : checkA s.1 = 0 := by
  by_cases h0 : checkA s.1 = 0
  · exact h0
  · obtain ⟨l, g⟩ := s
    rw [checkS_atoms h0] at h; exact h
theorem caretAt_bad (h : ¬ checkS s = 0) : caretAt s m = (0, checkS s) := by unfold caretAt; rw [if_pos h]
theorem caretAt_none (h : checkS s = 0) (h2 : noneM m = true) : caretAt s m = (0, 0) := by unfold caretAt; rw [if_neg (by simpa using h), if_pos h2]
theorem caretAt_mark (h : checkS s = 0) (h2 : noneM m = false) (h3 : ¬ checkM m = 0) : caretAt s m = (0, checkM m) := by unfold caretAt; rw [if_neg (by simpa using h), if_neg (by rw [h2]; simp), if_pos h3]
theorem caretAt_ok (h : checkS s = 0) (h2 : noneM m = false) (h3 : checkM m = 0) : caretAt s m = (((placeA s.1 m + (if hasM s.1 m = true then 1 else 0) : Nat) : Int), 0) := by
  unfold caretAt caretN; rw [if_neg (by simpa using h), if_neg (by rw [h2]; simp), if_neg (by simpa using h3), if_neg (by rw [h2]; simp)]
end
theorem rmk_zero {F : Nat → Prop} {w : World} : RMk F w [.slice none 0 0, .int .i64 0] ([], 0) := ⟨_, rfl, RSl.nil_ (Nat.zero_le _), i64_small (by simp) (by simp)⟩

set_option maxRecDepth 100000 in
set_option maxHeartbeats 4000000 in
theorem ofCaret_any {F : Nat → Prop} {w : World} {cs : List Value} {s : St} {n : Int} (h : RSt F w cs s) (hi : I64 n) :
    Calls Try.prog 22 #[.agg cs.toArray, .int .i64 n] w (IsMarkE (caretOf s n).1 (caretOf s n).2 w) := by
  have HC := Lib.hid (fun (W : World) (hx : Ext w W) => checkStateP_any (gSt.ext h hx))
  obtain ⟨va, vg, rfl, ha, hg⟩ := h
  obtain ⟨la, lg⟩ := s
  simp only at ha hg HC ⊢
  have HA := Lib.hid (fun (W : World) (hx : Ext w W) => ha.ext gAt hx)
  obtain ⟨a0, n0, c0, rfl⟩ := ha.slice
  obtain ⟨rfl, _, _⟩ := ha.len
  obtain ⟨a1, n1, c1, rfl⟩ := hg.slice
  obtain ⟨rfl, _, _⟩ := hg.len
  clear ha hg
  obtain ⟨hi1, hi2⟩ := hi
  by_cases h0 : checkS (la, lg) = 0
  · rw [h0] at HC
    by_cases h1 : n < 0
    · rw [caretOf_out h0 (.inl h1)]
      have t1 : decide (n < 0) = true := decide_eq_true h1
      clear h0
      go_enter Try.func22, Try.ntmps22
      go_wp2_with (go_at_call 56; go_must ((with_reducible refine (HC.out _ (by repeat (first | (with_reducible exact ext_refl _) | (with_reducible assumption) | (with_reducible refine ext_drew ?_) | (with_reducible refine ext_drewN ?_ _) | (with_reducible refine ext_alloc ?_ _) | (with_reducible refine ext_set ?_ (by first | omega | (simp <;> omega)) _) | (with_reducible refine ext_trans ?_ (by with_reducible assumption))))).mono ?_); rintro e w1 ⟨rfl, hx1⟩; have s0 := (hx1.cells (w.heap.size) (0) (by first | omega | (simp <;> omega))).trans (show _ = some (.slice a0 la.length c0) by first | assumption | go_simp); have s1 := (hx1.cells (w.heap.size) (1) (by first | omega | (simp <;> omega))).trans (show _ = some (.slice a1 lg.length c1) by first | assumption | go_simp); have r0 := (hx1.cells (w.heap.size + 1) (0) (by first | omega | (simp <;> omega))).trans (show _ = some (.slice none 0 0) by first | assumption | go_simp); have r1 := (hx1.cells (w.heap.size + 1) (1) (by first | omega | (simp <;> omega))).trans (show _ = some (.int .i64 0) by first | assumption | go_simp); have rf0 := (hx1.frz (w.heap.size + 1) (0) (by first | omega | (simp <;> omega))).trans (show _ = false by first | assumption | go_simp); have rf1 := (hx1.frz (w.heap.size + 1) (1) (by first | omega | (simp <;> omega))).trans (show _ = false by first | assumption | go_simp); have hz1 := hx1.size; (try simp at hz1); have hb1 : w.heap.size < w1.heap.size := (by omega); have hb2 : w.heap.size + 1 < w1.heap.size := (by omega)))
      all_goals refine bodyPost_ret (v := .tuple #[.agg #[.slice none 0 0, .int .i64 0], .int .i64 3]) (by simp [results, Try.results22, go_sem, r0, r1, rf0, rf1, hb1, hb2]) rfl ⟨[.slice none 0 0, .int .i64 0], rfl, rmk_zero, (by repeat (first | (with_reducible exact ext_refl _) | (with_reducible assumption) | (with_reducible refine ext_drew ?_) | (with_reducible refine ext_drewN ?_ _) | (with_reducible refine ext_alloc ?_ _) | (with_reducible refine ext_set ?_ (by first | omega | (simp <;> omega)) _) | (with_reducible refine ext_trans ?_ (by with_reducible assumption))))⟩
    by_cases h2 : (la.length : Int) < n
    · rw [caretOf_out h0 (.inr h2)]
      clear h0
      go_enter Try.func22, Try.ntmps22
      go_wp2_with (go_at_call 56; go_must ((with_reducible refine (HC.out _ (by repeat (first | (with_reducible exact ext_refl _) | (with_reducible assumption) | (with_reducible refine ext_drew ?_) | (with_reducible refine ext_drewN ?_ _) | (with_reducible refine ext_alloc ?_ _) | (with_reducible refine ext_set ?_ (by first | omega | (simp <;> omega)) _) | (with_reducible refine ext_trans ?_ (by with_reducible assumption))))).mono ?_); rintro e w1 ⟨rfl, hx1⟩; have s0 := (hx1.cells (w.heap.size) (0) (by first | omega | (simp <;> omega))).trans (show _ = some (.slice a0 la.length c0) by first | assumption | go_simp); have s1 := (hx1.cells (w.heap.size) (1) (by first | omega | (simp <;> omega))).trans (show _ = some (.slice a1 lg.length c1) by first | assumption | go_simp); have r0 := (hx1.cells (w.heap.size + 1) (0) (by first | omega | (simp <;> omega))).trans (show _ = some (.slice none 0 0) by first | assumption | go_simp); have r1 := (hx1.cells (w.heap.size + 1) (1) (by first | omega | (simp <;> omega))).trans (show _ = some (.int .i64 0) by first | assumption | go_simp); have rf0 := (hx1.frz (w.heap.size + 1) (0) (by first | omega | (simp <;> omega))).trans (show _ = false by first | assumption | go_simp); have rf1 := (hx1.frz (w.heap.size + 1) (1) (by first | omega | (simp <;> omega))).trans (show _ = false by first | assumption | go_simp); have hz1 := hx1.size; (try simp at hz1); have hb1 : w.heap.size < w1.heap.size := (by omega); have hb2 : w.heap.size + 1 < w1.heap.size := (by omega)))
      all_goals refine bodyPost_ret (v := .tuple #[.agg #[.slice none 0 0, .int .i64 0], .int .i64 3]) (by simp [results, Try.results22, go_sem, r0, r1, rf0, rf1, hb1, hb2]) rfl ⟨[.slice none 0 0, .int .i64 0], rfl, rmk_zero, (by repeat (first | (with_reducible exact ext_refl _) | (with_reducible assumption) | (with_reducible refine ext_drew ?_) | (with_reducible refine ext_drewN ?_ _) | (with_reducible refine ext_alloc ?_ _) | (with_reducible refine ext_set ?_ (by first | omega | (simp <;> omega)) _) | (with_reducible refine ext_trans ?_ (by with_reducible assumption))))⟩
    by_cases h3 : n = 0
    · rw [caretOf_zero h0 h3]
      have t3 : (n == 0) = true := by simpa using h3
      clear h0 h3
      go_enter Try.func22, Try.ntmps22
      go_wp2_with (go_at_call 56; go_must ((with_reducible refine (HC.out _ (by repeat (first | (with_reducible exact ext_refl _) | (with_reducible assumption) | (with_reducible refine ext_drew ?_) | (with_reducible refine ext_drewN ?_ _) | (with_reducible refine ext_alloc ?_ _) | (with_reducible refine ext_set ?_ (by first | omega | (simp <;> omega)) _) | (with_reducible refine ext_trans ?_ (by with_reducible assumption))))).mono ?_); rintro e w1 ⟨rfl, hx1⟩; have s0 := (hx1.cells (w.heap.size) (0) (by first | omega | (simp <;> omega))).trans (show _ = some (.slice a0 la.length c0) by first | assumption | go_simp); have s1 := (hx1.cells (w.heap.size) (1) (by first | omega | (simp <;> omega))).trans (show _ = some (.slice a1 lg.length c1) by first | assumption | go_simp); have r0 := (hx1.cells (w.heap.size + 1) (0) (by first | omega | (simp <;> omega))).trans (show _ = some (.slice none 0 0) by first | assumption | go_simp); have r1 := (hx1.cells (w.heap.size + 1) (1) (by first | omega | (simp <;> omega))).trans (show _ = some (.int .i64 0) by first | assumption | go_simp); have rf0 := (hx1.frz (w.heap.size + 1) (0) (by first | omega | (simp <;> omega))).trans (show _ = false by first | assumption | go_simp); have rf1 := (hx1.frz (w.heap.size + 1) (1) (by first | omega | (simp <;> omega))).trans (show _ = false by first | assumption | go_simp); have hz1 := hx1.size; (try simp at hz1); have hb1 : w.heap.size < w1.heap.size := (by omega); have hb2 : w.heap.size + 1 < w1.heap.size := (by omega)))
      all_goals refine bodyPost_ret (v := .tuple #[.agg #[.slice none 0 0, .int .i64 0], .int .i64 0]) (by simp [results, Try.results22, go_sem, r0, r1, rf0, rf1, hb1, hb2]) rfl ⟨[.slice none 0 0, .int .i64 0], rfl, rmk_zero, (by repeat (first | (with_reducible exact ext_refl _) | (with_reducible assumption) | (with_reducible refine ext_drew ?_) | (with_reducible refine ext_drewN ?_ _) | (with_reducible refine ext_alloc ?_ _) | (with_reducible refine ext_set ?_ (by first | omega | (simp <;> omega)) _) | (with_reducible refine ext_trans ?_ (by with_reducible assumption))))⟩
    · have t3 : (n == 0) = false := by simpa using h3
      obtain ⟨k, rfl⟩ : ∃ k : Nat, n = (k : Int) + 1 := ⟨(n - 1).toNat, by omega⟩
      have hkl : k < la.length := by omega
      obtain ⟨b, o, p, c, s, ap, cp, rfl, hb, ek, ick, hpp, y0, y1, y2⟩ := atm_at (HA.out w (ext_refl _)) hkl
      have hcm := (checkA_ok (checkS_atomsOk h0)).2.2 _ (List.mem_of_getElem? ek)
      have HOW := Lib.hid (fun (W : World) (hx : Ext w W) => own_any (rmk_of' (hpp.ext gStp hx) ick) (check_len hcm.1))
      rw [caretOf_in h0 rfl ek]
      have hk1 : (k : Int) + 1 - 1 = k := by omega
      have hn1 : ¬ b = w.heap.size := by omega
      have hn2 : ¬ b = w.heap.size + 1 := by omega
      have hl3 := (checkA_ok (checkS_atomsOk h0)).1
      clear h0 hpp ick ek h3 hi1 hi2 hk1
      go_enter Try.func22, Try.ntmps22
      go_wp2_with (first
        | (go_at_call 56; go_must ((with_reducible refine (HC.out _ (by repeat (first | (with_reducible exact ext_refl _) | (with_reducible assumption) | (with_reducible refine ext_drew ?_) | (with_reducible refine ext_drewN ?_ _) | (with_reducible refine ext_alloc ?_ _) | (with_reducible refine ext_set ?_ (by first | omega | (simp <;> omega)) _) | (with_reducible refine ext_trans ?_ (by with_reducible assumption))))).mono ?_); rintro e w1 ⟨rfl, hx1⟩; have s0 := (hx1.cells (w.heap.size) (0) (by first | omega | (simp <;> omega))).trans (show _ = some (.slice (some ⟨b, o, none⟩) la.length c0) by first | assumption | go_simp); have s1 := (hx1.cells (w.heap.size) (1) (by first | omega | (simp <;> omega))).trans (show _ = some (.slice a1 lg.length c1) by first | assumption | go_simp); have r0 := (hx1.cells (w.heap.size + 1) (0) (by first | omega | (simp <;> omega))).trans (show _ = some (.slice none 0 0) by first | assumption | go_simp); have r1 := (hx1.cells (w.heap.size + 1) (1) (by first | omega | (simp <;> omega))).trans (show _ = some (.int .i64 0) by first | assumption | go_simp); have rf0 := (hx1.frz (w.heap.size + 1) (0) (by first | omega | (simp <;> omega))).trans (show _ = false by first | assumption | go_simp); have rf1 := (hx1.frz (w.heap.size + 1) (1) (by first | omega | (simp <;> omega))).trans (show _ = false by first | assumption | go_simp); have hz1 := hx1.size; (try simp at hz1); have hb1 : w.heap.size < w1.heap.size := (by omega); have hb2 : w.heap.size + 1 < w1.heap.size := (by omega); have u0 := (hx1.cells b (o + k * 3) (by first | omega | (simp <;> omega))).trans (show _ = some (.slice ap p.length cp) by first | assumption | go_simp); have u1 := (hx1.cells b (o + k * 3 + 1) (by first | omega | (simp <;> omega))).trans (show _ = some (.int .i64 c) by first | assumption | go_simp)))
        | (go_at_call 57; go_must ((with_reducible refine (HOW.out _ (by repeat (first | (with_reducible exact ext_refl _) | (with_reducible assumption) | (with_reducible refine ext_drew ?_) | (with_reducible refine ext_drewN ?_ _) | (with_reducible refine ext_alloc ?_ _) | (with_reducible refine ext_set ?_ (by first | omega | (simp <;> omega)) _) | (with_reducible refine ext_trans ?_ (by with_reducible assumption))))).mono ?_); rintro e w2 ⟨cs2, rfl, hm2, hx2⟩; have HM2 := Lib.hid (omk_mk hm2); obtain ⟨v2, rfl, hv2, _⟩ := hm2; obtain ⟨a3, n3, c3, rfl⟩ := osl_slice hv2; have q0 := (hx2.cells (w.heap.size + 1) (0) (by first | omega | (simp <;> omega))).trans (show _ = some (.slice none 0 0) by first | assumption | go_simp); have q1 := (hx2.cells (w.heap.size + 1) (1) (by first | omega | (simp <;> omega))).trans (show _ = some (.int .i64 0) by first | assumption | go_simp); have qf0 := (hx2.frz (w.heap.size + 1) (0) (by first | omega | (simp <;> omega))).trans (show _ = false by first | assumption | go_simp); have qf1 := (hx2.frz (w.heap.size + 1) (1) (by first | omega | (simp <;> omega))).trans (show _ = false by first | assumption | go_simp); have hz2 := hx2.size; clear hv2)))
      refine bodyPost_ret (v := .tuple #[.agg #[.slice a3 n3 c3, .int .i64 c], .int .i64 0]) (by simp [results, Try.results22, go_sem, r0, r1, rf0, rf1, q0, q1, qf0, qf1, hb1, hb2]) rfl ⟨[.slice a3 n3 c3, .int .i64 c], rfl, RMk_fin HM2.out (by repeat (first | (with_reducible exact keeps_refl) | (with_reducible refine keeps_drew ?_) | (with_reducible refine keeps_alloc ?_ _) | (with_reducible refine keeps_set ?_ (by first | omega | (simp <;> omega)) _))) (by first | omega | (simp <;> omega)), (by repeat (first | (with_reducible exact ext_refl _) | (with_reducible assumption) | (with_reducible refine ext_drew ?_) | (with_reducible refine ext_drewN ?_ _) | (with_reducible refine ext_alloc ?_ _) | (with_reducible refine ext_set ?_ (by first | omega | (simp <;> omega)) _) | (with_reducible refine ext_trans ?_ (by with_reducible assumption))))⟩
  · rw [caretOf_bad h0]
    have t1 : (checkS (la, lg) != 0) = true := by simpa using h0
    generalize checkS (la, lg) = r at *
    clear h0
    go_enter Try.func22, Try.ntmps22
    go_wp2_with (go_at_call 56; go_must ((with_reducible refine (HC.out _ (by repeat (first | (with_reducible exact ext_refl _) | (with_reducible assumption) | (with_reducible refine ext_drew ?_) | (with_reducible refine ext_drewN ?_ _) | (with_reducible refine ext_alloc ?_ _) | (with_reducible refine ext_set ?_ (by first | omega | (simp <;> omega)) _) | (with_reducible refine ext_trans ?_ (by with_reducible assumption))))).mono ?_); rintro e w1 ⟨rfl, hx1⟩; have s0 := (hx1.cells (w.heap.size) (0) (by first | omega | (simp <;> omega))).trans (show _ = some (.slice a0 la.length c0) by first | assumption | go_simp); have s1 := (hx1.cells (w.heap.size) (1) (by first | omega | (simp <;> omega))).trans (show _ = some (.slice a1 lg.length c1) by first | assumption | go_simp); have r0 := (hx1.cells (w.heap.size + 1) (0) (by first | omega | (simp <;> omega))).trans (show _ = some (.slice none 0 0) by first | assumption | go_simp); have r1 := (hx1.cells (w.heap.size + 1) (1) (by first | omega | (simp <;> omega))).trans (show _ = some (.int .i64 0) by first | assumption | go_simp); have rf0 := (hx1.frz (w.heap.size + 1) (0) (by first | omega | (simp <;> omega))).trans (show _ = false by first | assumption | go_simp); have rf1 := (hx1.frz (w.heap.size + 1) (1) (by first | omega | (simp <;> omega))).trans (show _ = false by first | assumption | go_simp); have hz1 := hx1.size; (try simp at hz1); have hb1 : w.heap.size < w1.heap.size := (by omega); have hb2 : w.heap.size + 1 < w1.heap.size := (by omega)))
    all_goals refine bodyPost_ret (v := .tuple #[.agg #[.slice none 0 0, .int .i64 0], .int .i64 r]) (by simp [results, Try.results22, go_sem, r0, r1, rf0, rf1, hb1, hb2]) rfl ⟨[.slice none 0 0, .int .i64 0], rfl, rmk_zero, (by repeat (first | (with_reducible exact ext_refl _) | (with_reducible assumption) | (with_reducible refine ext_drew ?_) | (with_reducible refine ext_drewN ?_ _) | (with_reducible refine ext_alloc ?_ _) | (with_reducible refine ext_set ?_ (by first | omega | (simp <;> omega)) _) | (with_reducible refine ext_trans ?_ (by with_reducible assumption))))⟩
end Go.Proofs.Ythkhkbjkbpgaoaa
