/- The gap between two paths. -/
import Derived.Test.YthkhkbjkbpgaoaaW13
import Derived.Test.YthkhkbjkbpgaoaaW4
set_option linter.unusedVariables false
set_option linter.unusedSimpArgs false
namespace Go.Proofs.Ythkhkbjkbpgaoaa
open Go Go.RowKit Cp

theorem find_nil (site : Int) (pre b : List Stp) : findL site pre [] b = belowL site pre b := by cases b <;> rfl
theorem find_step {site : Int} {a b : List Stp} {k : Nat} {s t : Stp} (h1 : a[k]? = some s) (h2 : b[k]? = some t) :
    findL site (a.take k) (a.drop k) (b.drop k) = if s = t then findL site (a.take (k + 1)) (a.drop (k + 1)) (b.drop (k + 1)) else if 1 < t.1 - s.1 then ⟨a.take k, s.1 + 1, t.1 - 1⟩ else aboveL (a.take (k + 1)) (a.drop (k + 1)) := by
  obtain ⟨a1, b1⟩ := List.getElem?_eq_some_iff.1 h1
  obtain ⟨a2, b2⟩ := List.getElem?_eq_some_iff.1 h2
  rw [List.drop_eq_getElem_cons a1, List.drop_eq_getElem_cons a2, List.take_succ_eq_append_getElem a1, b1, b2]; rfl
theorem take_next {a b : List Stp} {k : Nat} {s t : Stp} (h1 : a[k]? = some s) (h2 : b[k]? = some t) (he : s = t) (h : a.take k = b.take k) : a.take (k + 1) = b.take (k + 1) := by
  obtain ⟨a1, b1⟩ := List.getElem?_eq_some_iff.1 h1
  obtain ⟨a2, b2⟩ := List.getElem?_eq_some_iff.1 h2
  rw [List.take_succ_eq_append_getElem a1, List.take_succ_eq_append_getElem a2, b1, b2, h, he]
theorem ord_left {a b : List Stp} {k : Nat} (h : ordP (a.drop k) (b.drop k) = -1) (_hk : k ≤ a.length) : k < b.length := by
  apply Classical.byContradiction
  intro hc
  rw [List.drop_eq_nil_of_le (show b.length ≤ k by omega)] at h
  cases hd : a.drop k with
  | nil => rw [hd] at h; simp [ordP] at h
  | cons x y => rw [hd] at h; simp [ordP] at h

theorem gap_fin {w W w1 w' : World} {v : Value} {l : List Stp} (h : RSl RStp 2 (fun k => (k < w.heap.size ∧ k < W.heap.size) ∨ W.heap.size ≤ k) w1 v l) (hk : Keeps (fun k => k ≠ w.heap.size) w1 w') (hs : w.heap.size < W.heap.size) :
    RSl RStp 2 (fun k => k < w.heap.size ∨ w.heap.size ≤ k) w' v l :=
  RSl.more gStp (fun k _ _ => by omega) (RSl.keep gStp hk (RSl.more gStp (G := fun k => k ≠ w.heap.size) (fun k hk _ => by omega) h))

set_option maxRecDepth 100000 in
set_option maxHeartbeats 1600000 in
theorem find_any {F G : Nat → Prop} {w : World} {v u : Value} {a b : List Stp} {site : Int} (ha : RSl RStp 2 F w v a) (hb : RSl RStp 2 G w u b)
    (hoa : ∀ s ∈ a, 0 ≤ s.1 ∧ s.1 ≤ 200) (hob : ∀ s ∈ b, 0 ≤ s.1 ∧ s.1 ≤ 200) (hlb : b ≠ [] → lastDigit b ≠ 0) (ho : b ≠ [] → ordP a b = -1) (hsz : b.length ≤ 10000) (hsi : I64 site) :
    Calls Try.prog 76 #[v, u, .int .i64 site] w (IsGap (fun k => k < w.heap.size) (findG a b site) w) := by
  have HAB := Lib.hid (fun (W : World) (hx : Ext w W) (k0 : Nat) (hk : k0 ≤ a.length) => above_any (F := fun k => k < w.heap.size) ((ha.more gStp (fun _ _ h => h)).ext gStp hx) hk hoa)
  have HBL := Lib.hid (fun (hne : b ≠ []) (W : World) (hx : Ext w W) (k0 : Nat) (hk : k0 < b.length) => below_any (F := fun k => k < w.heap.size) (site := site) ((hb.more gStp (fun _ _ h => h)).ext gStp hx) hk hob (hlb hne) hsz hsi)
  obtain ⟨a1, n1, c1, rfl⟩ := ha.slice
  obtain ⟨a2, n2, c2, rfl⟩ := hb.slice
  obtain ⟨rfl, k1, k1'⟩ := ha.len
  obtain ⟨rfl, k2, k2'⟩ := hb.len
  unfold maxLen at k1' k2'
  have q1 : a.length ≤ 9223372036854775807 := by omega
  have q2 : b.length ≤ 9223372036854775807 := by omega
  have q3 : c1 ≤ 9223372036854775807 := by omega
  have q4 : c2 ≤ 9223372036854775807 := by omega
  clear k1' k2'
  have HA := Lib.hid ha
  have HB := Lib.hid hb
  have HOA := Lib.hid hoa
  have HOB := Lib.hid hob
  have HO := Lib.hid ho
  clear ha hb hoa hob ho hlb hsi
  have hg := hg_stp
  have heql := eql_stp
  by_cases h0 : b.length = 0
  · have t0 : ((b.length : Int) == 0) = true := by rw [beq_iff_eq]; omega
    have hbn : b = [] := by simpa using h0
    have HG := Lib.hid (show findG a b site = aboveL (a.take 0) (a.drop 0) by unfold findG; rw [if_pos hbn]; rfl)
    clear h0 hbn
    go_enter Try.func76, Try.ntmps76
    have HCA : Hid (∀ W, Ext w W → Calls Try.prog 93 #[.slice a1 a.length c1, .int .i64 0] W (IsGap (fun k => k < w.heap.size ∧ k < W.heap.size) (aboveL (a.take 0) (a.drop 0)) W)) := fun W hx => HAB.out W hx 0 (Nat.zero_le _)
    go_wp2_with (go_at_call 93; ((with_reducible refine (HCA.out _ (ext_alloc (ext_refl _) _)).mono ?_); rintro e w1 ⟨v1, rfl, hv1, hx1⟩; obtain ⟨a3, n3, c3, rfl⟩ := hv1.slice; have HV1 := Lib.hid hv1; have hx2 := ext_call (ext_refl _) hx1; clear hv1; (try clear r0 r1 r2 f0 f1 f2); have r0 := (hx2.cells w.heap.size 0 (by simp <;> omega)).trans (show _ = some (.slice none 0 0) by go_simp); have r1 := (hx2.cells w.heap.size 1 (by simp <;> omega)).trans (show _ = some (.int .i64 0) by go_simp); have r2 := (hx2.cells w.heap.size 2 (by simp <;> omega)).trans (show _ = some (.int .i64 0) by go_simp); have f0 := (hx2.frz w.heap.size 0 (by simp <;> omega)).trans (show _ = false by go_simp); have f1 := (hx2.frz w.heap.size 1 (by simp <;> omega)).trans (show _ = false by go_simp); have f2 := (hx2.frz w.heap.size 2 (by simp <;> omega)).trans (show _ = false by go_simp); have HX2 := Lib.hid hx2; clear hx2 hx1))
    refine bodyPost_ret (v := .agg #[.slice a3 n3 c3, .int .i64 (aboveL (a.take 0) (a.drop 0)).least, .int .i64 (aboveL (a.take 0) (a.drop 0)).most]) (by simp [results, Try.results76, go_sem, r0, r1, r2]) rfl ⟨.slice a3 n3 c3, by rw [HG.out], ?_, (by repeat (first | (with_reducible exact ext_refl _) | (with_reducible refine ext_drew ?_) | (with_reducible refine ext_drewN ?_ _) | (with_reducible refine ext_alloc ?_ _) | (with_reducible refine ext_set ?_ (by first | omega | (simp <;> omega)) _) | (with_reducible refine ext_call ?_ HX2.out)))⟩
    rw [HG.out]
    exact gap_fin HV1.out (keeps_set (keeps_set (keeps_set keeps_refl (fun _ h => h rfl) _) (fun _ h => h rfl) _) (fun _ h => h rfl) _) (by simp <;> omega)

  have t0 : ((b.length : Int) == 0) = false := by rw [beq_eq_false_iff_ne]; omega
  have hbn : b ≠ [] := fun e => h0 (by rw [e]; rfl)
  have HG0 := Lib.hid (show findG a b site = findL site (a.take 0) (a.drop 0) (b.drop 0) by unfold findG; rw [if_neg hbn]; rfl)
  have HORD := Lib.hid (HO.out hbn)
  have HBN := Lib.hid hbn
  clear h0 hbn
  go_enter Try.func76, Try.ntmps76
  go_wp2
  go_loopw [7] (fun i wr => ∃ k : Nat, k ≤ a.length ∧ k ≤ b.length ∧ i = .int .i64 k ∧ Hid (findG a b site = findL site (a.take k) (a.drop k) (b.drop k)) ∧ Hid (ordP (a.drop k) (b.drop k) = -1 ∧ a.take k = b.take k) ∧ Ext (w.alloc (.cells #[.slice none 0 0, .int .i64 0, .int .i64 0] 108)) wr) (fun i _ => a.length - (intOf i).toNat)
  case atStart => exact ⟨0, by omega, by omega, rfl, HG0, ⟨HORD.out, rfl⟩, ext_refl _⟩
  case round =>
    obtain ⟨k, hk1, hk2, rfl, ho, hord, hx⟩ := hrel
    have HW := Lib.hid (ext_trans (ext_alloc (ext_refl _) _) hx)
    have r0 := (hx.cells w.heap.size 0 (by simp <;> omega)).trans (show _ = some (.slice none 0 0) by go_simp)
    have r1 := (hx.cells w.heap.size 1 (by simp <;> omega)).trans (show _ = some (.int .i64 0) by go_simp)
    have r2 := (hx.cells w.heap.size 2 (by simp <;> omega)).trans (show _ = some (.int .i64 0) by go_simp)
    have f0 := (hx.frz w.heap.size 0 (by simp <;> omega)).trans (show _ = false by go_simp)
    have f1 := (hx.frz w.heap.size 1 (by simp <;> omega)).trans (show _ = false by go_simp)
    have f2 := (hx.frz w.heap.size 2 (by simp <;> omega)).trans (show _ = false by go_simp)
    have HX := Lib.hid hx
    have hsw := hx.size
    simp at hsw
    clear hx
    have hkb := ord_left hord.out.1 hk1
    by_cases h1 : k < a.length
    · obtain ⟨b1, o1, x1, y1, rfl, hb1, e1, _, _, ca, cb⟩ := stp_at (RSl.ext gStp HA.out HW.out) h1
      obtain ⟨b2, o2, x2, y2, rfl, hb2, e2, _, _, cc, cd⟩ := stp_at (RSl.ext gStp HB.out HW.out) hkb
      have HST := Lib.hid (find_step (site := site) e1 e2)
      have HOS := Lib.hid (ordP_drop_step e1 e2)
      have HTK := Lib.hid (fun (he : (x1, y1) = (x2, y2)) (h : a.take k = b.take k) => take_next e1 e2 he h)
      obtain ⟨d1, d2⟩ := HOA.out _ (List.mem_of_getElem? e1)
      obtain ⟨d3, d4⟩ := HOB.out _ (List.mem_of_getElem? e2)
      simp only at d1 d2 d3 d4
      clear e1 e2 hb1 hb2
      cases t1 : eqS (x1, y1) (x2, y2) with
      | true =>
        have he : (x1, y1) = (x2, y2) := of_decide_eq_true t1
        have HE2 := Lib.hid (show findG a b site = findL site (a.take (k + 1)) (a.drop (k + 1)) (b.drop (k + 1)) by rw [ho.out, HST.out, if_pos he])
        have HE3 := Lib.hid (show ordP (a.drop (k + 1)) (b.drop (k + 1)) = -1 by
          have := HOS.out
          rw [hord.out.1, if_pos (ordS_zero.2 he)] at this
          exact this.symm)
        have HE4 := Lib.hid (show a.take (k + 1) = b.take (k + 1) from HTK.out he hord.out.2)
        clear he
        go_wp2
        go_quiet (fail)
        go_wp2
        go_roundw
        case rel => exact ⟨k + 1, by omega, by omega, by go_num, HE2, ⟨HE3.out, HE4.out⟩, ext_drewN HX.out _⟩
        case measure => simp [intOf]; omega
      | false =>
        have he : ¬ (x1, y1) = (x2, y2) := of_decide_eq_false t1
        have HW1 := Lib.hid (show IntKind.i64.wrap (x2 - x1) = x2 - x1 from IntWalk.i64_in _ (by omega))
        have HW2 := Lib.hid (show IntKind.i64.wrap (x1 + 1) = x1 + 1 from IntWalk.i64_in _ (by omega))
        have HW3 := Lib.hid (show IntKind.i64.wrap (x2 - 1) = x2 - 1 from IntWalk.i64_in _ (by omega))
        have t2 : ((k : Int) == (a.length : Int)) = false := by rw [beq_eq_false_iff_ne]; omega
        have kc : k ≤ c1 := by omega
        by_cases h2 : 1 < x2 - x1
        · have HG := Lib.hid (show findG a b site = ⟨a.take k, x1 + 1, x2 - 1⟩ by rw [ho.out, HST.out, if_neg he, if_pos h2])
          have t3 : decide (1 < x2 - x1) = true := decide_eq_true h2
          clear he h2
          go_wp2
          go_quiet (fail)
          go_wp2
          have hw1 := HW1.out
          go_quiet (fail)
          clear hw1
          go_wp2
          have hw2 := HW2.out
          have hw3 := HW3.out
          refine still_tail 16 fol (by kernel_rfl) ?_
          simp only [List.take_succ_cons, List.take_zero, List.drop_succ_cons, List.drop_zero]
          repeat still_step
          refine wpStill_nil ?_
          clear hw2 hw3
          go_wp2
          refine bodyPost_ret (v := .agg #[.slice (some ⟨b1, o1, none⟩) k c1, .int .i64 (x1 + 1), .int .i64 (x2 - 1)]) (by simp [results, Try.results76, go_sem, r0, r1, r2]) rfl ⟨.slice (some ⟨b1, o1, none⟩) k c1, by rw [HG.out], ?_, (by repeat (first | (with_reducible exact ext_refl _) | (with_reducible refine ext_drew ?_) | (with_reducible refine ext_drewN ?_ _) | (with_reducible refine ext_alloc ?_ _) | (with_reducible refine ext_set ?_ (by first | omega | (simp <;> omega)) _) | (with_reducible refine ext_call ?_ HW.out)))⟩
          rw [HG.out]
          exact rsl_take (RSl.more gStp (fun _ _ _ => by omega) (HA.out.ext gStp (by repeat (first | (with_reducible exact ext_refl _) | (with_reducible refine ext_drew ?_) | (with_reducible refine ext_drewN ?_ _) | (with_reducible refine ext_alloc ?_ _) | (with_reducible refine ext_set ?_ (by first | omega | (simp <;> omega)) _) | (with_reducible refine ext_call ?_ HW.out))))) (by omega)
        · have HG := Lib.hid (show findG a b site = aboveL (a.take (k + 1)) (a.drop (k + 1)) by rw [ho.out, HST.out, if_neg he, if_neg h2])
          have t3 : decide (1 < x2 - x1) = false := decide_eq_false h2
          have HCA : Hid (∀ W, Ext w W → Calls Try.prog 93 #[.slice (some ⟨b1, o1, none⟩) a.length c1, .int .i64 ((k : Int) + 1)] W (IsGap (fun k => k < w.heap.size ∧ k < W.heap.size) (aboveL (a.take (k + 1)) (a.drop (k + 1))) W)) := fun W hx => by
            have := HAB.out W hx (k + 1) (by omega)
            rwa [show (((k + 1 : Nat) : Int)) = (k : Int) + 1 by omega] at this
          clear he h2
          go_wp2
          go_quiet (fail)
          go_wp2
          have hw1 := HW1.out
          go_quiet (fail)
          clear hw1
          go_wp2_with (go_at_call 93; ((with_reducible refine (HCA.out _ (ext_drewN HW.out _)).mono ?_); rintro e w1 ⟨v1, rfl, hv1, hx1⟩; obtain ⟨a3, n3, c3, rfl⟩ := hv1.slice; have HV1 := Lib.hid hv1; have hx2 := ext_call (ext_drewN HX.out _) hx1; clear hv1; (try clear r0 r1 r2 f0 f1 f2); have r0 := (hx2.cells w.heap.size 0 (by simp <;> omega)).trans (show _ = some (.slice none 0 0) by go_simp); have r1 := (hx2.cells w.heap.size 1 (by simp <;> omega)).trans (show _ = some (.int .i64 0) by go_simp); have r2 := (hx2.cells w.heap.size 2 (by simp <;> omega)).trans (show _ = some (.int .i64 0) by go_simp); have f0 := (hx2.frz w.heap.size 0 (by simp <;> omega)).trans (show _ = false by go_simp); have f1 := (hx2.frz w.heap.size 1 (by simp <;> omega)).trans (show _ = false by go_simp); have f2 := (hx2.frz w.heap.size 2 (by simp <;> omega)).trans (show _ = false by go_simp); have HX2 := Lib.hid hx2; clear hx2 hx1))
          refine bodyPost_ret (v := .agg #[.slice a3 n3 c3, .int .i64 (aboveL (a.take (k + 1)) (a.drop (k + 1))).least, .int .i64 (aboveL (a.take (k + 1)) (a.drop (k + 1))).most]) (by simp [results, Try.results76, go_sem, r0, r1, r2]) rfl ⟨.slice a3 n3 c3, by rw [HG.out], ?_, (by repeat (first | (with_reducible exact ext_refl _) | (with_reducible refine ext_drew ?_) | (with_reducible refine ext_drewN ?_ _) | (with_reducible refine ext_alloc ?_ _) | (with_reducible refine ext_set ?_ (by first | omega | (simp <;> omega)) _) | (with_reducible refine ext_call ?_ HX2.out)))⟩
          rw [HG.out]
          exact gap_fin HV1.out (keeps_set (keeps_set (keeps_set keeps_refl (fun _ h => h rfl) _) (fun _ h => h rfl) _) (fun _ h => h rfl) _) (by simp <;> omega)

    · have hk : k = a.length := by omega
      have HG := Lib.hid (show findG a b site = belowL site (b.take k) (b.drop k) by
        rw [ho.out, List.drop_eq_nil_of_le (show a.length ≤ k by omega), find_nil, hord.out.2])
      have t2 : ((k : Int) == (a.length : Int)) = true := by rw [beq_iff_eq]; omega
      have t3 : decide ((k : Int) < (a.length : Int)) = false := decide_eq_false (by omega)
      clear hk
      go_wp2
      go_quiet (fail)
      go_wp2_with (go_at_call 94; ((with_reducible refine (HBL.out HBN.out _ (ext_drewN HW.out _) k hkb).mono ?_); rintro e w1 ⟨v1, rfl, hv1, hx1⟩; obtain ⟨a3, n3, c3, rfl⟩ := hv1.slice; have HV1 := Lib.hid hv1; have hx2 := ext_call (ext_drewN HX.out _) hx1; clear hv1; (try clear r0 r1 r2 f0 f1 f2); have r0 := (hx2.cells w.heap.size 0 (by simp <;> omega)).trans (show _ = some (.slice none 0 0) by go_simp); have r1 := (hx2.cells w.heap.size 1 (by simp <;> omega)).trans (show _ = some (.int .i64 0) by go_simp); have r2 := (hx2.cells w.heap.size 2 (by simp <;> omega)).trans (show _ = some (.int .i64 0) by go_simp); have f0 := (hx2.frz w.heap.size 0 (by simp <;> omega)).trans (show _ = false by go_simp); have f1 := (hx2.frz w.heap.size 1 (by simp <;> omega)).trans (show _ = false by go_simp); have f2 := (hx2.frz w.heap.size 2 (by simp <;> omega)).trans (show _ = false by go_simp); have HX2 := Lib.hid hx2; clear hx2 hx1))
      refine bodyPost_ret (v := .agg #[.slice a3 n3 c3, .int .i64 (belowL site (b.take k) (b.drop k)).least, .int .i64 (belowL site (b.take k) (b.drop k)).most]) (by simp [results, Try.results76, go_sem, r0, r1, r2]) rfl ⟨.slice a3 n3 c3, by rw [HG.out], ?_, (by repeat (first | (with_reducible exact ext_refl _) | (with_reducible refine ext_drew ?_) | (with_reducible refine ext_drewN ?_ _) | (with_reducible refine ext_alloc ?_ _) | (with_reducible refine ext_set ?_ (by first | omega | (simp <;> omega)) _) | (with_reducible refine ext_call ?_ HX2.out)))⟩
      rw [HG.out]
      exact gap_fin HV1.out (keeps_set (keeps_set (keeps_set keeps_refl (fun _ h => h rfl) _) (fun _ h => h rfl) _) (fun _ h => h rfl) _) (by simp <;> omega)

end Go.Proofs.Ythkhkbjkbpgaoaa
