/- The reference's order of two marks. -/
import Derived.Test.YtghfmgndddjofaaW2
set_option linter.unusedVariables false
set_option linter.unusedSimpArgs false
namespace Go.Proofs.Ytghfmgndddjofaa
open Go Go.RowKit Cp

theorem quiet_add_same {P : Program} {f : FuncId} {args : Array Value} {w : World} {a n : Nat} {v : Value}
    (h : Calls P f args (w.drewN (a + n)) fun e w' => e = .returned v ∧ w' = w.drewN (a + n)) :
    Calls P f args (w.drewN (a + n)) fun e w'' => e = .returned v ∧ ∃ m, w'' = w.drewN (a + m) :=
  h.mono fun _ _ ⟨he, hm⟩ => ⟨he, n, hm⟩
theorem number_s (a b : Int) (w : World) : Calls Try.prog 128 #[.int .i64 a, .int .i64 b] w fun e w' => e = .returned (.int .i64 (cmpI a b)) ∧ w' = w :=
  (number_any a b w).mono fun _ _ h => ⟨h.1, h.2.symm⟩
theorem ordP_end {l m : List Stp} {k : Nat} (h1 : k ≤ l.length) (h2 : k ≤ m.length) (h3 : ¬ (k < l.length ∧ k < m.length)) : ordP (l.drop k) (m.drop k) = cmpI (l.length : Int) (m.length : Int) := by
  by_cases h : k < l.length
  · rw [ordP_drop_gt h (by omega)]; unfold cmpI; rw [if_neg (by omega), if_pos (by omega)]
  · rw [ordP_drop_end (by omega) h2]
    split
    · unfold cmpI; rw [if_pos (by omega)]
    · unfold cmpI; rw [if_neg (by omega), if_neg (by omega)]
theorem ordM_fin {l m : List Stp} {c d : Int} {k : Nat} (ho : ordP l m = ordP (l.drop k) (m.drop k)) (h1 : k ≤ l.length) (h2 : k ≤ m.length) (h3 : ¬ (k < l.length ∧ k < m.length)) :
    ordM (l, c) (m, d) = if cmpI (l.length : Int) (m.length : Int) = 0 then cmpI c d else cmpI (l.length : Int) (m.length : Int) := by
  unfold ordM; simp only; rw [ho, ordP_end h1 h2 h3]
theorem ordM_ne {l m : List Stp} {c d x : Int} {k : Nat} (ho : ordP l m = ordP (l.drop k) (m.drop k)) (hs : ordP (l.drop k) (m.drop k) = x) (hx : x ≠ 0) : ordM (l, c) (m, d) = x := by
  unfold ordM; simp only; rw [ho, hs, if_neg hx]

set_option maxRecDepth 100000 in
set_option maxHeartbeats 800000 in
theorem orderOf_any {F G : Nat → Prop} {w : World} {cs ds : List Value} {a b : Mk} (ha : RMk F w cs a) (hb : RMk G w ds b) :
    Calls Try.prog 91 #[.agg cs.toArray, .agg ds.toArray] w fun e w' => e = .returned (.int .i64 (ordM a b)) ∧ Ext w w' := by
  obtain ⟨v, rfl, hl, _⟩ := ha
  obtain ⟨u, rfl, hm, _⟩ := hb
  obtain ⟨l, c⟩ := a
  obtain ⟨m, d⟩ := b
  simp only at hl hm ⊢
  obtain ⟨a1, n1, c1, rfl⟩ := hl.slice
  obtain ⟨a2, n2, c2, rfl⟩ := hm.slice
  obtain ⟨rfl, k1, k1'⟩ := hl.len
  obtain ⟨rfl, k2, k2'⟩ := hm.len
  unfold maxLen at k1' k2'
  have q1 : l.length ≤ 9223372036854775807 := by omega
  have q2 : m.length ≤ 9223372036854775807 := by omega
  clear k1 k1' k2 k2'
  have HL := Lib.hid hl
  have HM := Lib.hid hm
  clear hl hm
  go_enter Try.func91, Try.ntmps91
  go_wp2
  go_loopw [5] (fun i wr => ∃ k : Nat, k ≤ l.length ∧ k ≤ m.length ∧ i = .int .i64 k ∧ Hid (ordP l m = ordP (l.drop k) (m.drop k)) ∧ Ext ((w.alloc (.cells #[.slice a1 l.length c1, .int .i64 c] 75)).alloc (.cells #[.slice a2 m.length c2, .int .i64 d] 75)) wr) (fun i _ => l.length - (intOf i).toNat)
  case atStart => exact ⟨0, by omega, by omega, rfl, Lib.hid (by simp), ext_refl _⟩
  case round =>
    obtain ⟨k, hk1, hk2, rfl, ho, hx⟩ := hrel
    have hw : Ext w wr := ext_trans (ext_alloc (ext_alloc (ext_refl _) _) _) hx
    have z1 : wr.cell? ⟨w.heap.size, 0, none⟩ = some (.slice a1 l.length c1) := (hx.cells _ _ (by simp <;> omega)).trans (by go_simp)
    have z2 : wr.cell? ⟨w.heap.size, 1, none⟩ = some (.int .i64 c) := (hx.cells _ _ (by simp <;> omega)).trans (by go_simp)
    have z3 : wr.cell? ⟨w.heap.size + 1, 0, none⟩ = some (.slice a2 m.length c2) := (hx.cells _ _ (by simp <;> omega)).trans (by go_simp)
    have z4 : wr.cell? ⟨w.heap.size + 1, 1, none⟩ = some (.int .i64 d) := (hx.cells _ _ (by simp <;> omega)).trans (by go_simp)
    have HX := Lib.hid hx
    have HW := Lib.hid hw
    clear hx hw
    by_cases h12 : k < l.length ∧ k < m.length
    · obtain ⟨h1, h2⟩ := h12
      obtain ⟨b1, o1, x1, y1, rfl, hb1, e1, _, _, ca, cb⟩ := stp_at (HL.out.ext gStp HW.out) h1
      obtain ⟨b2, o2, x2, y2, rfl, hb2, e2, _, _, cc, cd⟩ := stp_at (HM.out.ext gStp HW.out) h2
      have HS := Lib.hid (ordP_drop_step e1 e2)
      clear e1 e2 hb1 hb2
      have hz : cmpI x1 x2 = 0 → ordS (x1, y1) (x2, y2) = cmpI y1 y2 := fun h => by unfold ordS; simp [h]
      have hn : cmpI x1 x2 ≠ 0 → ordS (x1, y1) (x2, y2) = cmpI x1 x2 := fun h => by unfold ordS; simp [h]
      by_cases h0 : cmpI x1 x2 = 0
      · have t1 : (cmpI x1 x2 == 0) = true := by rw [beq_iff_eq]; exact h0
        have HZ := Lib.hid (hz h0)
        clear hz hn h0
        by_cases h5 : cmpI y1 y2 = 0
        · have t2 : (cmpI y1 y2 != 0) = false := by rw [h5]; rfl
          have H5 := Lib.hid h5
          clear h5
          go_wp2
          go_quiet ((go_at_call 128; exact Calls.quiet_of_same (number_s _ _ _)))
          go_wp2
          go_quiet ((go_at_call 128; exact quiet_add_same (number_s _ _ _)))
          go_wp2
          go_roundw
          case rel => exact ⟨k + 1, by omega, by omega, by go_num, Lib.hid (by rw [ho.out, HS.out, HZ.out, if_pos H5.out]), ext_drewN HX.out _⟩
          case measure => simp [intOf]; omega
        · have t2 : (cmpI y1 y2 != 0) = true := by rw [bne_iff_ne]; exact h5
          have H5 := Lib.hid h5
          clear h5
          go_wp2
          go_quiet ((go_at_call 128; exact Calls.quiet_of_same (number_s _ _ _)))
          go_wp2
          go_quiet ((go_at_call 128; exact quiet_add_same (number_s _ _ _)))
          go_wp2
          go_ret
          exact ⟨ri (ordM_ne ho.out (HS.out.trans (by rw [HZ.out, if_neg H5.out])) H5.out).symm, ext_drewN HW.out _⟩
      · have t1 : (cmpI x1 x2 == 0) = false := by rw [beq_eq_false_iff_ne]; exact h0
        have t2 : (cmpI x1 x2 != 0) = true := by rw [bne_iff_ne]; exact h0
        have HZ := Lib.hid (hn h0)
        have H0 := Lib.hid h0
        clear h0 hz hn
        go_wp2
        go_quiet ((go_at_call 128; exact Calls.quiet_of_same (number_s _ _ _)))
        go_wp2
        go_ret
        exact ⟨ri (ordM_ne ho.out (HS.out.trans (by rw [HZ.out, if_neg H0.out])) H0.out).symm, ext_drewN HW.out _⟩
    · have HF := Lib.hid (ordM_fin (c := c) (d := d) ho.out hk1 hk2 h12)
      clear ho
      have key : ∀ (e : Ending) (w1 : World), e = .returned (.int .i64 (if cmpI (l.length : Int) (m.length : Int) = 0 then cmpI c d else cmpI (l.length : Int) (m.length : Int))) → w1 = wr → e = .returned (.int .i64 (ordM (l, c) (m, d))) ∧ Ext w w1 := fun e w1 h1 h2 => by
        subst h2
        exact ⟨by rw [h1, HF.out], HW.out⟩
      have KEY := Lib.hid key
      clear key
      have hfin : ∀ (x : Int), cmpI (l.length : Int) (m.length : Int) = x → True := fun _ _ => trivial
      clear hfin
      by_cases h5 : cmpI (l.length : Int) (m.length : Int) = 0
      · have t2 : (cmpI (l.length : Int) (m.length : Int) == 0) = true := by rw [beq_iff_eq]; exact h5
        have H5 := Lib.hid h5
        clear h5
        by_cases h1 : k < l.length
        · have h2 : ¬ k < m.length := fun h => h12 ⟨h1, h⟩
          clear h12
          go_wp2_with (go_at_call 128; refine (number_any _ _ _).mono ?_; rintro e w2 ⟨rfl, rfl⟩)
          go_ret
          exact KEY.out _ _ (ri (by rw [if_pos H5.out])) rfl
        · clear h12
          go_wp2_with (go_at_call 128; refine (number_any _ _ _).mono ?_; rintro e w2 ⟨rfl, rfl⟩)
          go_ret
          exact KEY.out _ _ (ri (by rw [if_pos H5.out])) rfl
      · have t2 : (cmpI (l.length : Int) (m.length : Int) == 0) = false := by rw [beq_eq_false_iff_ne]; exact h5
        have H5 := Lib.hid h5
        clear h5
        by_cases h1 : k < l.length
        · have h2 : ¬ k < m.length := fun h => h12 ⟨h1, h⟩
          clear h12
          go_wp2_with (go_at_call 128; refine (number_any _ _ _).mono ?_; rintro e w2 ⟨rfl, rfl⟩)
          go_ret
          exact KEY.out _ _ (ri (by rw [if_neg H5.out])) rfl
        · clear h12
          go_wp2_with (go_at_call 128; refine (number_any _ _ _).mono ?_; rintro e w2 ⟨rfl, rfl⟩)
          go_ret
          exact KEY.out _ _ (ri (by rw [if_neg H5.out])) rfl

theorem same_any {F G : Nat → Prop} {w : World} {cs ds : List Value} {a b : Mk} (ha : RMk F w cs a) (hb : RMk G w ds b) :
    Calls Try.prog 98 #[.agg cs.toArray, .agg ds.toArray] w fun e w' => e = .returned (.bool (ordM a b == 0)) ∧ Ext w w' := by
  have h := fun (W : World) (hx : Ext w W) => orderOf_any (gMk.ext ha hx) (gMk.ext hb hx)
  obtain ⟨v, rfl, _, _⟩ := ha
  obtain ⟨u, rfl, _, _⟩ := hb
  have H := Lib.hid h
  clear h
  go_enter Try.func98, Try.ntmps98
  go_wp2_with (go_at_call 91; refine (H.out _ (ext_alloc (ext_alloc (ext_refl _) _) _)).mono ?_; rintro e w1 ⟨rfl, hx1⟩)
  go_ret
  exact ⟨rfl, ext_call (ext_alloc (ext_alloc (ext_refl _) _) _) hx1⟩
end Go.Proofs.Ytghfmgndddjofaa
