/- The gap below a path. -/
import Derived.Test.YthkhkbjkbpgaoaaW11
import Derived.Test.YthkhkbjkbpgaoaaW8
set_option linter.unusedVariables false
set_option linter.unusedSimpArgs false
namespace Go.Proofs.Ythkhkbjkbpgaoaa
open Go Go.RowKit Cp

set_option maxRecDepth 100000 in
set_option maxHeartbeats 800000 in
theorem below_any {F : Nat → Prop} {w : World} {v : Value} {l : List Stp} {k0 : Nat} {site : Int} (h : RSl RStp 2 F w v l) (hk0 : k0 < l.length) (hok : ∀ s ∈ l, 0 ≤ s.1 ∧ s.1 ≤ 200) (hl : lastDigit l ≠ 0) (hsz : l.length ≤ 10000) (hsi : I64 site) :
    Calls Try.prog 94 #[v, .int .i64 k0, .int .i64 site] w (IsGap (fun k => F k ∧ k < w.heap.size) (belowL site (l.take k0) (l.drop k0)) w) := by
  obtain ⟨a1, n1, c1, rfl⟩ := h.slice
  obtain ⟨rfl, k1, k1'⟩ := h.len
  unfold maxLen at k1'
  have q1 : l.length ≤ 9223372036854775807 := by omega
  have q2 : c1 ≤ 9223372036854775807 := by omega
  have q3 : k0 ≤ 9223372036854775807 := by omega
  clear k1'
  have HL := Lib.hid h
  have HOK := Lib.hid hok
  have HLD := Lib.hid hl
  have HSI := Lib.hid hsi
  clear h hok hl hsi
  obtain ⟨i0, hi, hz0, hz1, hz2⟩ := info_parts info_step
  have HI := Lib.hid hi
  have HZ0 := Lib.hid hz0
  have HZ1 := Lib.hid hz1
  have HZ2 := Lib.hid hz2
  clear hi hz0 hz1 hz2
  go_enter Try.func94, Try.ntmps94
  go_wp2
  go_loopw [7] (fun i wr => ∃ k : Nat, k < l.length ∧ i = .int .i64 k ∧ Hid (belowL site (l.take k0) (l.drop k0) = belowL site (l.take k) (l.drop k)) ∧ Ext (w.alloc (.cells #[.slice none 0 0, .int .i64 0, .int .i64 0] 108)) wr) (fun i _ => l.length - (intOf i).toNat)
  case atStart => exact ⟨k0, by omega, rfl, Lib.hid rfl, ext_refl _⟩
  case round =>
    obtain ⟨k, h1, rfl, ho, hx⟩ := hrel
    have HW := Lib.hid (ext_trans (ext_alloc (ext_refl _) _) hx)
    have r0 := (hx.cells w.heap.size 0 (by simp <;> omega)).trans (show _ = some (.slice none 0 0) by go_simp)
    have r1 := (hx.cells w.heap.size 1 (by simp <;> omega)).trans (show _ = some (.int .i64 0) by go_simp)
    have r2 := (hx.cells w.heap.size 2 (by simp <;> omega)).trans (show _ = some (.int .i64 0) by go_simp)
    have f0 := (hx.frz w.heap.size 0 (by simp <;> omega)).trans (show _ = false by go_simp)
    have f1 := (hx.frz w.heap.size 1 (by simp <;> omega)).trans (show _ = false by go_simp)
    have f2 := (hx.frz w.heap.size 2 (by simp <;> omega)).trans (show _ = false by go_simp)
    have HX := Lib.hid hx
    have hsw := hx.size
    simp at hsw
    clear hx
    obtain ⟨b1, o1, x1, y1, rfl, hb1, e1, _, _, ca, cb⟩ := stp_at (RSl.ext gStp HL.out HW.out) h1
    have HA := Lib.hid (below_drop (site := site) e1)
    obtain ⟨d1, d2⟩ := HOK.out _ (List.mem_of_getElem? e1)
    simp only at d1 d2
    have hlast : x1 = 0 → k + 1 < l.length := fun hz => by
      apply Classical.byContradiction
      intro hc
      have : k = l.length - 1 := by omega
      subst this
      exact HLD.out ((lastDigit_at e1).trans hz)
    have HLA := Lib.hid hlast
    clear e1 hb1 hlast
    have kc : k ≤ c1 := by omega
    by_cases h2 : 1 < x1
    · have HG := Lib.hid (show belowL site (l.take k0) (l.drop k0) = ⟨l.take k, 1, x1 - 1⟩ by rw [ho.out, HA.out, if_pos h2])
      go_wp2
      refine bodyPost_ret (v := .agg #[.slice (some ⟨b1, o1, none⟩) k c1, .int .i64 1, .int .i64 (x1 - 1)]) (by simp [results, Try.results94, go_sem, r0, r1, r2]) rfl ⟨.slice (some ⟨b1, o1, none⟩) k c1, by rw [HG.out], ?_, (by repeat (first | (with_reducible exact ext_refl _) | (with_reducible refine ext_drew ?_) | (with_reducible refine ext_drewN ?_ _) | (with_reducible refine ext_alloc ?_ _) | (with_reducible refine ext_set ?_ (by first | omega | (simp <;> omega)) _) | (with_reducible refine ext_call ?_ HW.out)))⟩
      rw [HG.out]
      exact rsl_take ((RSl.anyF HL.out).ext gStp (by repeat (first | (with_reducible exact ext_refl _) | (with_reducible refine ext_drew ?_) | (with_reducible refine ext_drewN ?_ _) | (with_reducible refine ext_alloc ?_ _) | (with_reducible refine ext_set ?_ (by first | omega | (simp <;> omega)) _) | (with_reducible refine ext_call ?_ HW.out)))) (by omega)
    by_cases h3 : x1 = 1
    · have t1 : (x1 == 1) = true := by rw [beq_iff_eq]; exact h3
      have HG := Lib.hid (show belowL site (l.take k0) (l.drop k0) = ⟨l.take k ++ [(0, site)], 1, 200⟩ by rw [ho.out, HA.out, if_neg h2, if_pos h3])
      have HCL := Lib.hid (cloneSteps_any (rsl_take (HL.out.ext gStp HW.out) (k := k) (by omega)) (by rw [List.length_take]; omega))
      clear h3
      go_wp2_with (first
        | (go_at_call 77; ((with_reducible refine HCL.out.mono ?_); rintro e w1 ⟨v1, rfl, hv1, hx1⟩; obtain ⟨a3, n3, c3, rfl⟩ := osl_slice hv1; have HV1 := Lib.hid hv1; have hs1 := hx1.size; have HX1 := Lib.hid hx1; clear hv1 hx1))
        | (at_builtin; go_must (refine wpList_app1 gStp rfl (.tmp 32) (.tmp 35) 41 rfl wr.heap.size 96 i0 _ 2 16 Try.underlying41 HI.out HZ0.out HZ1.out HZ2.out rfl (by omega) (F := fun _ => True) (G := fun _ => False) _ (l.take k) rfl (osl_ext gStp HV1.out (ext_alloc (ext_refl _) _)) w1.heap.size 0 1 [.int .i64 0, .int .i64 site] (0, site) rfl rfl (rangeAt2 (by go_simp) (by go_simp)) (one_stp (fun _ => True) w1 _ (0, site) ⟨rfl, i64_small (by simp) (by simp), HSI.out⟩) ⟨rfl, i64_small (by simp) (by simp), HSI.out⟩ (fun _ hk _ => hk.elim) (by rw [List.length_take]; simp only [maxLen]; omega) (by rw [List.length_take]; omega) (by simp <;> omega) ?_; intro v2 w2 hown2 hg2 hat2; obtain ⟨a4, n4, c4, rfl⟩ := osl_slice hown2; have hx2 : Ext (w.alloc (.cells #[.slice none 0 0, .int .i64 0, .int .i64 0] 108)) w2 := ext_grow (by repeat (first | (with_reducible exact ext_refl _) | (with_reducible refine ext_drew ?_) | (with_reducible refine ext_drewN ?_ _) | (with_reducible refine ext_alloc ?_ _) | (with_reducible refine ext_set ?_ (by first | omega | (simp <;> omega)) _) | (with_reducible refine ext_call ?_ HX1.out) | (with_reducible refine ext_call ?_ HX.out))) hg2 (fun k hk => by have := (osl_lt HV1.out k hk).1; simp <;> omega); have HV2 := Lib.hid hown2; clear hown2 hg2 hat2 r0 r1 r2 f0 f1 f2; have r0 := (hx2.cells w.heap.size 0 (by simp <;> omega)).trans (show _ = some (.slice none 0 0) by go_simp); have r1 := (hx2.cells w.heap.size 1 (by simp <;> omega)).trans (show _ = some (.int .i64 0) by go_simp); have r2 := (hx2.cells w.heap.size 2 (by simp <;> omega)).trans (show _ = some (.int .i64 0) by go_simp); have f0 := (hx2.frz w.heap.size 0 (by simp <;> omega)).trans (show _ = false by go_simp); have f1 := (hx2.frz w.heap.size 1 (by simp <;> omega)).trans (show _ = false by go_simp); have f2 := (hx2.frz w.heap.size 2 (by simp <;> omega)).trans (show _ = false by go_simp); have HX2 := Lib.hid hx2; clear hx2)))
      refine bodyPost_ret (v := .agg #[.slice a4 n4 c4, .int .i64 1, .int .i64 200]) (by simp [results, Try.results94, go_sem, r0, r1, r2]) rfl ⟨.slice a4 n4 c4, by rw [HG.out], ?_, (by repeat (first | (with_reducible exact ext_refl _) | (with_reducible refine ext_drew ?_) | (with_reducible refine ext_drewN ?_ _) | (with_reducible refine ext_alloc ?_ _) | (with_reducible refine ext_set ?_ (by first | omega | (simp <;> omega)) _) | (with_reducible refine ext_call ?_ HX2.out)))⟩
      rw [HG.out]
      exact RSl.more gStp (fun k hk _ => .inr (Nat.le_of_lt hk)) (RSl.keep gStp (F := fun k => w.heap.size < k) (by repeat (first | (with_reducible exact keeps_refl) | (with_reducible refine keeps_drew ?_) | (with_reducible refine keeps_alloc ?_ _) | (with_reducible refine keeps_set ?_ (by first | omega | (simp <;> omega)) _))) (osl_rsl gStp (osl_any leaf_stp (G := fun k => w.heap.size < k) HV2.out) (fun k hk _ => hk) (fun k hk => by omega)))
    · have t1 : (x1 == 1) = false := by rw [beq_eq_false_iff_ne]; exact h3
      have HG := Lib.hid (show belowL site (l.take k0) (l.drop k0) = belowL site (l.take (k + 1)) (l.drop (k + 1)) by rw [ho.out, HA.out, if_neg h2, if_neg h3])
      have hz : x1 = 0 := by omega
      have hk1 := HLA.out hz
      clear h3 hz
      go_wp2
      go_roundw
      case rel => exact ⟨k + 1, by omega, by go_num, HG, HX.out⟩
      case measure => simp [intOf]; omega
end Go.Proofs.Ythkhkbjkbpgaoaa
