/- What is wrong with a state, by the document. -/
import Derived.Test.YthkhkbjkbpgaoaaA5
set_option linter.unusedVariables false
set_option linter.unusedSimpArgs false
namespace Go.Proofs.Ythkhkbjkbpgaoaa
open Go Go.RowKit Go.BigFrame Cp

set_option maxRecDepth 100000 in
set_option maxHeartbeats 4000000 in
theorem checkState_any {F : Nat → Prop} {w : World} {cs : List Value} {s : St} (h : RSt F w cs s) :
    Calls Try.prog 24 #[.agg cs.toArray] w fun e w' => e = .returned (.int .i64 (checkS s)) ∧ Ext w w' := by
  obtain ⟨va, vg, rfl, ha, hg⟩ := h
  obtain ⟨la, lg⟩ := s
  simp only at ha hg ⊢
  have HC := Lib.hid (fun (W : World) (hx : Ext w W) => checkAtoms_any (ha.ext gAt hx))
  have HA := Lib.hid (fun (W : World) (hx : Ext w W) => ha.ext gAt hx)
  have HG := Lib.hid (fun (W : World) (hx : Ext w W) => hg.ext gMk hx)
  obtain ⟨a0, n0, c0, rfl⟩ := ha.slice
  obtain ⟨rfl, _, _⟩ := ha.len
  obtain ⟨a1, n1, c1, rfl⟩ := hg.slice
  obtain ⟨rfl, hn1, hn2⟩ := hg.len
  unfold maxLen at hn2
  have q1 : lg.length ≤ 9223372036854775807 := by omega
  clear hn1 hn2 ha hg
  by_cases h0 : checkA la = 0
  · have HOK := Lib.hid (checkA_ok h0)
    rw [h0] at HC
    have hal := HOK.out.1
    by_cases hm : 600 < lg.length
    · rw [checkS_many h0 hm]
      clear h0
      go_enter Try.func24, Try.ntmps24
      go_wp2_with (go_at_call 42; go_must ((with_reducible refine (HC.out _ (by repeat (first | (with_reducible exact ext_refl _) | (with_reducible assumption) | (with_reducible refine ext_drew ?_) | (with_reducible refine ext_drewN ?_ _) | (with_reducible refine ext_alloc ?_ _) | (with_reducible refine ext_set ?_ (by first | omega | (simp <;> omega)) _) | (with_reducible refine ext_trans ?_ (by with_reducible assumption))))).mono ?_); rintro e w1 ⟨rfl, hx1⟩; have x0 := (hx1.cells w.heap.size 0 (by first | omega | (simp <;> omega))).trans (show _ = some (.slice a0 la.length c0) by first | assumption | go_simp); have x1 := (hx1.cells w.heap.size 1 (by first | omega | (simp <;> omega))).trans (show _ = some (.slice a1 lg.length c1) by first | assumption | go_simp); have hz1 := hx1.size; (try simp at hz1); have hb1 : w.heap.size < w1.heap.size := (by omega); have hw1 : Ext w w1 := (ext_trans (ext_alloc (ext_refl _) _) hx1)))
      go_ret
      exact ⟨rfl, hw1⟩
    · have HM := Lib.hid (checkS_few h0 hm)
      clear h0
      go_enter Try.func24, Try.ntmps24
      go_wp2_with (go_at_call 42; go_must ((with_reducible refine (HC.out _ (by repeat (first | (with_reducible exact ext_refl _) | (with_reducible assumption) | (with_reducible refine ext_drew ?_) | (with_reducible refine ext_drewN ?_ _) | (with_reducible refine ext_alloc ?_ _) | (with_reducible refine ext_set ?_ (by first | omega | (simp <;> omega)) _) | (with_reducible refine ext_trans ?_ (by with_reducible assumption))))).mono ?_); rintro e w1 ⟨rfl, hx1⟩; have x0 := (hx1.cells w.heap.size 0 (by first | omega | (simp <;> omega))).trans (show _ = some (.slice a0 la.length c0) by first | assumption | go_simp); have x1 := (hx1.cells w.heap.size 1 (by first | omega | (simp <;> omega))).trans (show _ = some (.slice a1 lg.length c1) by first | assumption | go_simp); have hz1 := hx1.size; (try simp at hz1); have hb1 : w.heap.size < w1.heap.size := (by omega); have hw1 : Ext w w1 := (ext_trans (ext_alloc (ext_refl _) _) hx1)))
      have HW1 := Lib.hid hw1
      clear hx1 hw1
      go_loopw [4] (fun i wr => ∃ k : Nat, k ≤ lg.length ∧ i = .int .i64 k ∧ Hid (checkS (la, lg) = checkGF la (prevG lg k) (lg.drop k)) ∧ Ext w1 wr) (fun i _ => lg.length - (intOf i).toNat)
      case atStart => exact ⟨0, Nat.zero_le _, rfl, HM, ext_refl _⟩
      case round =>
        obtain ⟨k, hk, rfl, HI, hx⟩ := hrel
        have z0 := (hx.cells w.heap.size 0 hb1).trans x0
        have z1 := (hx.cells w.heap.size 1 hb1).trans x1
        have hzr := hx.size
        have hbr : w.heap.size < wr.heap.size := by omega
        have HX := Lib.hid (ext_trans HW1.out hx)
        have HXR := Lib.hid hx
        clear hx
        by_cases hlt : k < lg.length
        · obtain ⟨b, o, p, c, ap, cp, rfl, hb, ek, ick, hpp, y0, y1⟩ := mark_at (HG.out wr HX.out) hlt
          have HPX := Lib.hid (fun (W : World) (hx : Ext wr W) => (rmk_of' (hpp.ext gStp hx) ick))
          have HCM := Lib.hid (fun (W : World) (hx : Ext wr W) => checkMark_any (HPX.out W hx))
          have HEK := Lib.hid ek
          have hn1 : ¬ b = wr.heap.size := by omega
          have hn2 : ¬ wr.heap.size = b := by omega
          have hn3 : ¬ w.heap.size = wr.heap.size := by omega
          have hn4 : ¬ wr.heap.size = w.heap.size := by omega
          clear hpp ick ek
          by_cases g1 : checkM (p, c) = 0
          · have HG1 := Lib.hid g1
            rw [g1] at HCM
            clear g1
            go_wp2_with (go_at_call 26; go_must ((with_reducible refine (HCM.out _ (by repeat (first | (with_reducible exact ext_refl _) | (with_reducible assumption) | (with_reducible refine ext_drew ?_) | (with_reducible refine ext_drewN ?_ _) | (with_reducible refine ext_alloc ?_ _) | (with_reducible refine ext_set ?_ (by first | omega | (simp <;> omega)) _) | (with_reducible refine ext_trans ?_ (by with_reducible assumption))))).mono ?_); rintro e w2 ⟨rfl, hx2⟩; have v0 := (hx2.cells (w.heap.size) (0) (by first | omega | (simp <;> omega))).trans (show _ = some (.slice a0 la.length c0) by first | assumption | go_simp); have v1 := (hx2.cells (w.heap.size) (1) (by first | omega | (simp <;> omega))).trans (show _ = some (.slice (some ⟨b, o, none⟩) lg.length c1) by first | assumption | go_simp); have v2 := (hx2.cells (b) (o + k * 2) (by first | omega | (simp <;> omega))).trans (show _ = some (.slice ap p.length cp) by first | assumption | go_simp); have v3 := (hx2.cells (b) (o + k * 2 + 1) (by first | omega | (simp <;> omega))).trans (show _ = some (.int .i64 c) by first | assumption | go_simp); have hz2 := hx2.size; (try simp at hz2); have HX2 := Lib.hid hx2; clear hx2))
            have hb2 : w.heap.size < w2.heap.size := by omega
            have hb3 : b < w2.heap.size := by omega
            have HHM := Lib.hid (fun (W : World) (hx : Ext wr W) => hasMark_any (HA.out W (ext_trans HX.out hx)) (HPX.out W hx))
            by_cases hk0 : k = 0
            · have t8 : decide (0 < (k : Int)) = false := decide_eq_false (by omega)
              have t8b : decide (0 < k) = false := decide_eq_false (by omega)
              have HF := Lib.hid (HI.out.trans (checkGF_first (ats := la) HEK.out HG1.out hk0))
              clear hk0
              cases g5 : hasM la (p, c) with
              | true =>
                rw [g5] at HHM
                have HF2 := Lib.hid (HF.out.trans (by rw [if_pos g5]))
                refine wp_name (fun W2 eW2 => ?_)
                have e0 : W2.cell? ⟨w.heap.size, 0, none⟩ = some (.slice a0 la.length c0) := by rw [eW2]; go_simp
                have e1 : W2.cell? ⟨w.heap.size, 1, none⟩ = some (.slice (some ⟨b, o, none⟩) lg.length c1) := by rw [eW2]; go_simp
                have e2 : W2.cell? ⟨b, o + k * 2, none⟩ = some (.slice ap p.length cp) := by rw [eW2]; go_simp
                have e3 : W2.cell? ⟨b, o + k * 2 + 1, none⟩ = some (.int .i64 c) := by rw [eW2]; go_simp
                have zW2_0 : w.heap.size < W2.heap.size := by rw [eW2]; first | assumption | omega | (simp <;> omega)
                have zW2_1 : b < W2.heap.size := by rw [eW2]; first | assumption | omega | (simp <;> omega)
                have hw2 : Ext wr W2 := by rw [eW2]; exact ext_trans (ext_refl _) (ext_trans HX2.out (by repeat (first | (with_reducible exact ext_refl _) | (with_reducible assumption) | (with_reducible refine ext_drew ?_) | (with_reducible refine ext_drewN ?_ _) | (with_reducible refine ext_alloc ?_ _) | (with_reducible refine ext_set ?_ (by first | omega | (simp <;> omega)) _) | (with_reducible refine ext_trans ?_ (by with_reducible assumption)))))
                clear eW2
                refine wp_region_later fol (by kernel_rfl) (fun hlater => ?_)
                repeat (go_big_quiet_step ((first
                    | (go_at_call 60; (with_reducible exact later_of (HHM.out _ (ext_trans hw2 (Later.ext _))))))))
                refine wpQuiet_nil ?_
                rintro w3 ⟨⟨w3x, hx3⟩, rfl⟩
                clear hlater
                go_wp2_with fail
                go_ret
                exact ⟨ri HF2.out.symm, ext_trans HX.out (ext_trans hw2 hx3)⟩
              | false =>
                rw [g5] at HHM
                have HF2 := Lib.hid (HF.out.trans (by rw [if_neg (by rw [g5]; simp)]))
                refine wp_name (fun W2 eW2 => ?_)
                have e0 : W2.cell? ⟨w.heap.size, 0, none⟩ = some (.slice a0 la.length c0) := by rw [eW2]; go_simp
                have e1 : W2.cell? ⟨w.heap.size, 1, none⟩ = some (.slice (some ⟨b, o, none⟩) lg.length c1) := by rw [eW2]; go_simp
                have e2 : W2.cell? ⟨b, o + k * 2, none⟩ = some (.slice ap p.length cp) := by rw [eW2]; go_simp
                have e3 : W2.cell? ⟨b, o + k * 2 + 1, none⟩ = some (.int .i64 c) := by rw [eW2]; go_simp
                have zW2_0 : w.heap.size < W2.heap.size := by rw [eW2]; first | assumption | omega | (simp <;> omega)
                have zW2_1 : b < W2.heap.size := by rw [eW2]; first | assumption | omega | (simp <;> omega)
                have hw2 : Ext wr W2 := by rw [eW2]; exact ext_trans (ext_refl _) (ext_trans HX2.out (by repeat (first | (with_reducible exact ext_refl _) | (with_reducible assumption) | (with_reducible refine ext_drew ?_) | (with_reducible refine ext_drewN ?_ _) | (with_reducible refine ext_alloc ?_ _) | (with_reducible refine ext_set ?_ (by first | omega | (simp <;> omega)) _) | (with_reducible refine ext_trans ?_ (by with_reducible assumption)))))
                clear eW2
                refine wp_region_later fol (by kernel_rfl) (fun hlater => ?_)
                repeat (go_big_quiet_step ((first
                    | (go_at_call 60; (with_reducible exact later_of (HHM.out _ (ext_trans hw2 (Later.ext _))))))))
                refine wpQuiet_nil ?_
                rintro w3 ⟨⟨w3x, hx3⟩, rfl⟩
                clear hlater
                go_wp2_with fail
                go_roundw
                case rel => exact ⟨k + 1, by omega, by go_num, HF2, ext_trans HXR.out (ext_trans hw2 hx3)⟩
                case measure => simp [intOf]; omega
            · have hk1 : 0 < k := by omega
              have t8 : decide (0 < (k : Int)) = true := decide_eq_true (by omega)
              have t8b : decide (0 < k) = true := decide_eq_true (by omega)
              clear hk0
              obtain ⟨b', o', p1, d1, ap1, cp1, ea, _, ek1, ic1, hp1, u0, u1⟩ := mark_at (HG.out wr HX.out) (i := k - 1) (by omega)
              obtain ⟨rfl, rfl⟩ : b = b' ∧ o = o' := by injection ea with ea; injection ea with ea1 ea2; exact ⟨ea1, ea2⟩
              clear ea
              have HP1 := Lib.hid (fun (W : World) (hx : Ext wr W) => (rmk_of' (hp1.ext gStp hx) ic1))
              have HOR := Lib.hid (fun (W : World) (hx : Ext wr W) => orderOf_any (HP1.out W hx) (HPX.out W hx))
              have HE1 := Lib.hid ek1
              clear hp1 ic1 ek1
              have x6 := (HX2.out.cells b (o + (k - 1) * 2) (by first | omega | (simp <;> omega))).trans (show _ = some (.slice ap1 p1.length cp1) by first | assumption | go_simp)
              have x7 := (HX2.out.cells b (o + (k - 1) * 2 + 1) (by first | omega | (simp <;> omega))).trans (show _ = some (.int .i64 d1) by first | assumption | go_simp)
              by_cases g4 : 0 ≤ ordM (p1, d1) (p, c)
              · have HF := Lib.hid (HI.out.trans (checkGF_bad (ats := la) HEK.out HE1.out hk1 HG1.out g4))
                have t9 : decide (0 ≤ ordM (p1, d1) (p, c)) = true := decide_eq_true g4
                generalize ordM (p1, d1) (p, c) = od at *
                clear g4 HE1
                refine wp_name (fun W2 eW2 => ?_)
                have e0 : W2.cell? ⟨w.heap.size, 0, none⟩ = some (.slice a0 la.length c0) := by rw [eW2]; go_simp
                have e1 : W2.cell? ⟨w.heap.size, 1, none⟩ = some (.slice (some ⟨b, o, none⟩) lg.length c1) := by rw [eW2]; go_simp
                have e2 : W2.cell? ⟨b, o + k * 2, none⟩ = some (.slice ap p.length cp) := by rw [eW2]; go_simp
                have e3 : W2.cell? ⟨b, o + k * 2 + 1, none⟩ = some (.int .i64 c) := by rw [eW2]; go_simp
                have e6 : W2.cell? ⟨b, o + (k - 1) * 2, none⟩ = some (.slice ap1 p1.length cp1) := by rw [eW2]; go_simp
                have e7 : W2.cell? ⟨b, o + (k - 1) * 2 + 1, none⟩ = some (.int .i64 d1) := by rw [eW2]; go_simp
                have zW2_0 : w.heap.size < W2.heap.size := by rw [eW2]; first | assumption | omega | (simp <;> omega)
                have zW2_1 : b < W2.heap.size := by rw [eW2]; first | assumption | omega | (simp <;> omega)
                have hw2 : Ext wr W2 := by rw [eW2]; exact ext_trans (ext_refl _) (ext_trans HX2.out (by repeat (first | (with_reducible exact ext_refl _) | (with_reducible assumption) | (with_reducible refine ext_drew ?_) | (with_reducible refine ext_drewN ?_ _) | (with_reducible refine ext_alloc ?_ _) | (with_reducible refine ext_set ?_ (by first | omega | (simp <;> omega)) _) | (with_reducible refine ext_trans ?_ (by with_reducible assumption)))))
                clear eW2
                refine wp_region_later fol (by kernel_rfl) (fun hlater => ?_)
                repeat (go_big_quiet_step ((first
                    | (go_at_call 35; (with_reducible exact later_of (HOR.out _ (ext_trans hw2 (Later.ext _))))))))
                refine wpQuiet_nil ?_
                rintro w3 ⟨⟨w3x, hx3⟩, rfl⟩
                clear hlater
                go_wp2_with fail
                go_ret
                exact ⟨ri HF.out.symm, ext_trans HX.out (ext_trans hw2 hx3)⟩
              · have HF := Lib.hid (HI.out.trans (checkGF_next (ats := la) HEK.out HE1.out hk1 HG1.out g4))
                have t9 : decide (0 ≤ ordM (p1, d1) (p, c)) = false := decide_eq_false g4
                generalize ordM (p1, d1) (p, c) = od at *
                clear g4 HE1
                cases g5 : hasM la (p, c) with
                | true =>
                  rw [g5] at HHM
                  have HF2 := Lib.hid (HF.out.trans (by rw [if_pos g5]))
                  refine wp_name (fun W2 eW2 => ?_)
                  have e0 : W2.cell? ⟨w.heap.size, 0, none⟩ = some (.slice a0 la.length c0) := by rw [eW2]; go_simp
                  have e1 : W2.cell? ⟨w.heap.size, 1, none⟩ = some (.slice (some ⟨b, o, none⟩) lg.length c1) := by rw [eW2]; go_simp
                  have e2 : W2.cell? ⟨b, o + k * 2, none⟩ = some (.slice ap p.length cp) := by rw [eW2]; go_simp
                  have e3 : W2.cell? ⟨b, o + k * 2 + 1, none⟩ = some (.int .i64 c) := by rw [eW2]; go_simp
                  have e6 : W2.cell? ⟨b, o + (k - 1) * 2, none⟩ = some (.slice ap1 p1.length cp1) := by rw [eW2]; go_simp
                  have e7 : W2.cell? ⟨b, o + (k - 1) * 2 + 1, none⟩ = some (.int .i64 d1) := by rw [eW2]; go_simp
                  have zW2_0 : w.heap.size < W2.heap.size := by rw [eW2]; first | assumption | omega | (simp <;> omega)
                  have zW2_1 : b < W2.heap.size := by rw [eW2]; first | assumption | omega | (simp <;> omega)
                  have hw2 : Ext wr W2 := by rw [eW2]; exact ext_trans (ext_refl _) (ext_trans HX2.out (by repeat (first | (with_reducible exact ext_refl _) | (with_reducible assumption) | (with_reducible refine ext_drew ?_) | (with_reducible refine ext_drewN ?_ _) | (with_reducible refine ext_alloc ?_ _) | (with_reducible refine ext_set ?_ (by first | omega | (simp <;> omega)) _) | (with_reducible refine ext_trans ?_ (by with_reducible assumption)))))
                  clear eW2
                  refine wp_region_later fol (by kernel_rfl) (fun hlater => ?_)
                  repeat (go_big_quiet_step ((first
                      | (go_at_call 35; (with_reducible exact later_of (HOR.out _ (ext_trans hw2 (Later.ext _)))))
                      | (go_at_call 60; (with_reducible exact later_of (HHM.out _ (ext_trans hw2 (Later.ext _))))))))
                  refine wpQuiet_nil ?_
                  rintro w3 ⟨⟨w3x, hx3⟩, rfl⟩
                  clear hlater
                  go_wp2_with fail
                  go_ret
                  exact ⟨ri HF2.out.symm, ext_trans HX.out (ext_trans hw2 hx3)⟩
                | false =>
                  rw [g5] at HHM
                  have HF2 := Lib.hid (HF.out.trans (by rw [if_neg (by rw [g5]; simp)]))
                  refine wp_name (fun W2 eW2 => ?_)
                  have e0 : W2.cell? ⟨w.heap.size, 0, none⟩ = some (.slice a0 la.length c0) := by rw [eW2]; go_simp
                  have e1 : W2.cell? ⟨w.heap.size, 1, none⟩ = some (.slice (some ⟨b, o, none⟩) lg.length c1) := by rw [eW2]; go_simp
                  have e2 : W2.cell? ⟨b, o + k * 2, none⟩ = some (.slice ap p.length cp) := by rw [eW2]; go_simp
                  have e3 : W2.cell? ⟨b, o + k * 2 + 1, none⟩ = some (.int .i64 c) := by rw [eW2]; go_simp
                  have e6 : W2.cell? ⟨b, o + (k - 1) * 2, none⟩ = some (.slice ap1 p1.length cp1) := by rw [eW2]; go_simp
                  have e7 : W2.cell? ⟨b, o + (k - 1) * 2 + 1, none⟩ = some (.int .i64 d1) := by rw [eW2]; go_simp
                  have zW2_0 : w.heap.size < W2.heap.size := by rw [eW2]; first | assumption | omega | (simp <;> omega)
                  have zW2_1 : b < W2.heap.size := by rw [eW2]; first | assumption | omega | (simp <;> omega)
                  have hw2 : Ext wr W2 := by rw [eW2]; exact ext_trans (ext_refl _) (ext_trans HX2.out (by repeat (first | (with_reducible exact ext_refl _) | (with_reducible assumption) | (with_reducible refine ext_drew ?_) | (with_reducible refine ext_drewN ?_ _) | (with_reducible refine ext_alloc ?_ _) | (with_reducible refine ext_set ?_ (by first | omega | (simp <;> omega)) _) | (with_reducible refine ext_trans ?_ (by with_reducible assumption)))))
                  clear eW2
                  refine wp_region_later fol (by kernel_rfl) (fun hlater => ?_)
                  repeat (go_big_quiet_step ((first
                      | (go_at_call 35; (with_reducible exact later_of (HOR.out _ (ext_trans hw2 (Later.ext _)))))
                      | (go_at_call 60; (with_reducible exact later_of (HHM.out _ (ext_trans hw2 (Later.ext _))))))))
                  refine wpQuiet_nil ?_
                  rintro w3 ⟨⟨w3x, hx3⟩, rfl⟩
                  clear hlater
                  go_wp2_with fail
                  go_roundw
                  case rel => exact ⟨k + 1, by omega, by go_num, HF2, ext_trans HXR.out (ext_trans hw2 hx3)⟩
                  case measure => simp [intOf]; omega
          · have HF := Lib.hid (HI.out.trans (checkGF_mark HEK.out g1))
            have t1 : (checkM (p, c) != 0) = true := by simpa using g1
            generalize checkM (p, c) = m at *
            clear g1
            go_wp2_with (go_at_call 26; go_must ((with_reducible refine (HCM.out _ (by repeat (first | (with_reducible exact ext_refl _) | (with_reducible assumption) | (with_reducible refine ext_drew ?_) | (with_reducible refine ext_drewN ?_ _) | (with_reducible refine ext_alloc ?_ _) | (with_reducible refine ext_set ?_ (by first | omega | (simp <;> omega)) _) | (with_reducible refine ext_trans ?_ (by with_reducible assumption))))).mono ?_); rintro e w2 ⟨rfl, hx2⟩; have v0 := (hx2.cells (w.heap.size) (0) (by first | omega | (simp <;> omega))).trans (show _ = some (.slice a0 la.length c0) by first | assumption | go_simp); have v1 := (hx2.cells (w.heap.size) (1) (by first | omega | (simp <;> omega))).trans (show _ = some (.slice (some ⟨b, o, none⟩) lg.length c1) by first | assumption | go_simp); have v2 := (hx2.cells (b) (o + k * 2) (by first | omega | (simp <;> omega))).trans (show _ = some (.slice ap p.length cp) by first | assumption | go_simp); have v3 := (hx2.cells (b) (o + k * 2 + 1) (by first | omega | (simp <;> omega))).trans (show _ = some (.int .i64 c) by first | assumption | go_simp); have hz2 := hx2.size; (try simp at hz2); have HX2 := Lib.hid hx2; clear hx2))
            go_ret
            exact ⟨ri HF.out.symm, ext_trans HX.out (ext_trans (ext_refl _) HX2.out)⟩
        · go_wp2
          go_ret
          exact ⟨ri (by rw [HI.out, checkGF_end (by omega)]), HX.out⟩
  · rw [checkS_atoms h0]
    have t1 : (checkA la != 0) = true := by simpa using h0
    generalize checkA la = r at *
    clear h0
    go_enter Try.func24, Try.ntmps24
    go_wp2_with (go_at_call 42; go_must ((with_reducible refine (HC.out _ (by repeat (first | (with_reducible exact ext_refl _) | (with_reducible assumption) | (with_reducible refine ext_drew ?_) | (with_reducible refine ext_drewN ?_ _) | (with_reducible refine ext_alloc ?_ _) | (with_reducible refine ext_set ?_ (by first | omega | (simp <;> omega)) _) | (with_reducible refine ext_trans ?_ (by with_reducible assumption))))).mono ?_); rintro e w1 ⟨rfl, hx1⟩; have x0 := (hx1.cells w.heap.size 0 (by first | omega | (simp <;> omega))).trans (show _ = some (.slice a0 la.length c0) by first | assumption | go_simp); have x1 := (hx1.cells w.heap.size 1 (by first | omega | (simp <;> omega))).trans (show _ = some (.slice a1 lg.length c1) by first | assumption | go_simp); have hz1 := hx1.size; (try simp at hz1); have hb1 : w.heap.size < w1.heap.size := (by omega); have hw1 : Ext w w1 := (ext_trans (ext_alloc (ext_refl _) _) hx1)))
    go_ret
    exact ⟨rfl, hw1⟩
end Go.Proofs.Ythkhkbjkbpgaoaa
