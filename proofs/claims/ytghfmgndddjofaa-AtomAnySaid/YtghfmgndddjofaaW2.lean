/- cmp.Or at two numbers; the order of two steps. -/
import Derived.Test.YtghfmgndddjofaaW1
set_option linter.unusedVariables false
set_option linter.unusedSimpArgs false
namespace Go.Proofs.Ytghfmgndddjofaa
open Go Go.RowKit Cp

def orI (a b : Int) : Int := if a = 0 then b else a
theorem or_any (a b : Int) (g : Nat) (w : World) (h0 : w.cell? ⟨g, 0, none⟩ = some (.int .i64 a)) (h1 : w.cell? ⟨g, 1, none⟩ = some (.int .i64 b)) :
    Calls Try.prog 122 #[.slice (some ⟨g, 0, none⟩) 2 2] w fun e w' => e = .returned (.int .i64 (orI a b)) ∧ w = w' := by
  by_cases ha : a = 0
  · have e1 : orI a b = b := by unfold orI; rw [if_pos ha]
    rw [e1]
    clear e1
    subst ha
    by_cases hb : b = 0
    · subst hb
      go_enter Try.func122, Try.ntmps122
      go_wp2
      refine wp_loop_rounds 3 ?_
      rw [rounds_succ]
      go_wp2
      rw [rounds_succ]
      go_wp2
      rw [rounds_succ]
      go_wp2
      go_ret
      exact ⟨rfl, rfl⟩
    · have hb' : (b != 0) = true := by rw [bne_iff_ne]; exact hb
      clear hb
      go_enter Try.func122, Try.ntmps122
      go_wp2
      refine wp_loop_rounds 2 ?_
      rw [rounds_succ]
      go_wp2
      rw [rounds_succ]
      go_wp2
      go_ret
      exact ⟨rfl, rfl⟩
  · have e1 : orI a b = a := by unfold orI; rw [if_neg ha]
    rw [e1]
    have ha' : (a != 0) = true := by rw [bne_iff_ne]; exact ha
    clear e1 ha
    go_enter Try.func122, Try.ntmps122
    go_wp2
    refine wp_loop_rounds 1 ?_
    rw [rounds_succ]
    go_wp2
    go_ret
    exact ⟨rfl, rfl⟩

theorem ordS_or (a b : Stp) : ordS a b = orI (cmpI a.1 b.1) (cmpI a.2 b.2) := rfl
theorem compare_s (a b : Int) (w : World) : Calls Try.prog 125 #[.int .i64 a, .int .i64 b] w fun e w' => e = .returned (.int .i64 (cmpI a b)) ∧ w' = w :=
  (compare_any a b w).mono fun _ _ h => ⟨h.1, h.2.symm⟩
set_option maxRecDepth 100000 in
theorem steps_any (a1 a2 b1 b2 : Int) (w : World) :
    Calls Try.prog 124 #[.agg #[.int .i64 a1, .int .i64 a2], .agg #[.int .i64 b1, .int .i64 b2]] w fun e w' => e = .returned (.int .i64 (ordS (a1, a2) (b1, b2))) ∧ Ext w w' := by
  rw [ordS_or]
  go_enter Try.func124, Try.ntmps124
  go_wp2
  refine still_tail 10 fol (by kernel_rfl) ?_
  simp only [List.take_succ_cons, List.take_zero, List.drop_succ_cons, List.drop_zero]
  repeat still_step
  still_call (compare_s _ _ _)
  repeat still_step
  still_call (compare_s _ _ _)
  repeat still_step
  refine wpStill_nil ?_
  go_wp2_with (go_at_call 122; refine (or_any (cmpI a1 b1) (cmpI a2 b2) _ _ (by go_simp) (by go_simp)).mono ?_; rintro e w1 ⟨rfl, rfl⟩)
  go_ret
  exact ⟨rfl, ext_drew (ext_alloc (ext_alloc (ext_alloc (ext_refl _) _) _) _)⟩

theorem ordP_drop_end {l m : List Stp} {k : Nat} (hk : k = l.length) (hm : k ≤ m.length) : ordP (l.drop k) (m.drop k) = if l.length < m.length then -1 else 0 := by
  subst hk
  rw [List.drop_eq_nil_of_le (Nat.le_refl _)]
  split
  · rename_i h
    rw [List.drop_eq_getElem_cons h]; rfl
  · rw [List.drop_eq_nil_of_le (by omega)]; rfl
theorem ordP_drop_gt {l m : List Stp} {k : Nat} (hk : k < l.length) (hm : m.length ≤ k) : ordP (l.drop k) (m.drop k) = 1 := by
  rw [List.drop_eq_getElem_cons hk, List.drop_eq_nil_of_le hm]; rfl
theorem ordP_drop_step {l m : List Stp} {k : Nat} {s t : Stp} (h1 : l[k]? = some s) (h2 : m[k]? = some t) :
    ordP (l.drop k) (m.drop k) = if ordS s t = 0 then ordP (l.drop (k + 1)) (m.drop (k + 1)) else ordS s t := by
  obtain ⟨a1, b1⟩ := List.getElem?_eq_some_iff.1 h1
  obtain ⟨a2, b2⟩ := List.getElem?_eq_some_iff.1 h2
  rw [List.drop_eq_getElem_cons a1, List.drop_eq_getElem_cons a2, b1, b2]; rfl

set_option maxRecDepth 100000 in
theorem comparePaths_any {F G : Nat → Prop} {w : World} {v u : Value} {l m : List Stp} (hl : RSl RStp 2 F w v l) (hm : RSl RStp 2 G w u m) :
    Calls Try.prog 123 #[v, u, .func (.func 124) #[] #[]] w fun e w' => e = .returned (.int .i64 (ordP l m)) ∧ Ext w w' := by
  obtain ⟨a1, n1, c1, rfl⟩ := hl.slice
  obtain ⟨a2, n2, c2, rfl⟩ := hm.slice
  obtain ⟨rfl, k1, k1'⟩ := hl.len
  obtain ⟨rfl, k2, k2'⟩ := hm.len
  unfold maxLen at k1' k2'
  have q1 : l.length ≤ 9223372036854775807 := by omega
  have q2 : m.length ≤ 9223372036854775807 := by omega
  clear k1 k1' k2 k2'
  go_enter Try.func123, Try.ntmps123
  go_wp2
  go_loopw [13] (fun i wr => ∃ k : Nat, k ≤ l.length ∧ k ≤ m.length ∧ i = .int .i64 k ∧ Hid (ordP l m = ordP (l.drop k) (m.drop k)) ∧ Ext w wr) (fun i _ => l.length - (intOf i).toNat)
  case atStart => exact ⟨0, by omega, by omega, rfl, Lib.hid (by simp), ext_refl _⟩
  case round =>
    obtain ⟨k, hk1, hk2, rfl, ho, hx⟩ := hrel
    have hl' := hl.ext gStp hx
    have hm' := hm.ext gStp hx
    by_cases h1 : k < l.length
    · obtain ⟨b1, o1, x1, y1, rfl, hb1, e1, _, _, ca, cb⟩ := stp_at hl' h1
      by_cases h2 : k < m.length
      · obtain ⟨b2, o2, x2, y2, rfl, hb2, e2, _, _, cc, cd⟩ := stp_at hm' h2
        have hs := ordP_drop_step e1 e2
        have HS := Lib.hid hs
        clear hs e1 e2 hl hm hl' hm'
        have HX := Lib.hid hx
        clear hx
        have HB1 := Lib.hid hb1
        have HB2 := Lib.hid hb2
        by_cases h0 : ordS (x1, y1) (x2, y2) = 0
        · have h0' : (ordS (x1, y1) (x2, y2) != 0) = false := by rw [h0]; rfl
          have H0 := Lib.hid h0
          clear h0
          go_wp2_with (go_at_call 124; refine (steps_any _ _ _ _ _).mono ?_; rintro e w1 ⟨rfl, hx1⟩)
          go_roundw
          case rel => exact ⟨k + 1, by omega, by omega, by go_num, Lib.hid (by rw [ho.out, HS.out, if_pos H0.out]), ext_trans HX.out (ext_trans (ext_alloc (ext_alloc (ext_refl _) _) _) hx1)⟩
          case measure => simp [intOf]; omega
        · have h0' : (ordS (x1, y1) (x2, y2) != 0) = true := by rw [bne_iff_ne]; exact h0
          have H0 := Lib.hid h0
          clear h0
          go_wp2_with (go_at_call 124; refine (steps_any _ _ _ _ _).mono ?_; rintro e w1 ⟨rfl, hx1⟩)
          go_ret
          exact ⟨ri (by rw [ho.out, HS.out, if_neg H0.out]), ext_trans HX.out (ext_trans (ext_alloc (ext_alloc (ext_refl _) _) _) hx1)⟩
      · have HO := Lib.hid (ho.out.trans (ordP_drop_gt h1 (by omega)))
        clear ho hl hm hl' hm' e1
        have HX := Lib.hid hx
        clear hx
        go_wp2
        go_ret
        exact ⟨ri HO.out.symm, ext_trans HX.out (ext_alloc (ext_refl _) _)⟩
    · have HO := Lib.hid (ho.out.trans (ordP_drop_end (by omega) hk2))
      clear ho hl hm hl' hm'
      have HX := Lib.hid hx
      clear hx
      by_cases h2 : l.length < m.length
      · go_wp2
        go_ret
        exact ⟨ri (by rw [HO.out, if_pos h2]), HX.out⟩
      · go_wp2
        go_ret
        exact ⟨ri (by rw [HO.out, if_neg h2]), HX.out⟩
end Go.Proofs.Ytghfmgndddjofaa
