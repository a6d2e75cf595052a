/- What is wrong with atoms, by the document. -/
import Derived.Test.YtghfmgndddjofaaA0
set_option linter.unusedVariables false
set_option linter.unusedSimpArgs false
namespace Go.Proofs.Ytghfmgndddjofaa
open Go Go.RowKit Go.BigFrame Cp

set_option maxRecDepth 100000 in
set_option maxHeartbeats 4000000 in
theorem checkAtoms_any {F : Nat → Prop} {w : World} {v : Value} {l : List At} (hl : RSl RAt 3 F w v l) :
    Calls Try.prog 40 #[v] w fun e w' => e = .returned (.int .i64 (checkA l)) ∧ Ext w w' := by
  obtain ⟨a0, n0, c0, rfl⟩ := hl.slice
  obtain ⟨rfl, hn1, hn2⟩ := hl.len
  unfold maxLen at hn2
  have q1 : l.length ≤ 9223372036854775807 := by omega
  clear hn1 hn2
  by_cases hm : 300 < l.length
  · rw [checkA_many hm]
    go_enter Try.func40, Try.ntmps40
    go_wp2
    go_ret
    exact ⟨rfl, ext_refl _⟩
  have HM := Lib.hid (checkA_few hm)
  have HL := Lib.hid hl
  clear hl
  go_enter Try.func40, Try.ntmps40
  go_wp2
  go_loopw [3] (fun i wr => ∃ k : Nat, k ≤ l.length ∧ i = .int .i64 k ∧ Hid (checkA l = checkAF (prevA l k) (l.drop k)) ∧ Ext w wr) (fun i _ => l.length - (intOf i).toNat)
  case atStart => exact ⟨0, Nat.zero_le _, rfl, HM, ext_refl _⟩
  case round =>
    obtain ⟨k, hk, rfl, HI, hx⟩ := hrel
    have HX := Lib.hid hx
    clear hx
    by_cases hlt : k < l.length
    · obtain ⟨b, o, p, c, s, ap, cp, rfl, hb, ek, ick, hpp, y0, y1, y2⟩ := atm_at (HL.out.ext gAt HX.out) hlt
      have HPX := Lib.hid (fun (W : World) (hx : Ext wr W) => (rmk_of' (hpp.ext gStp hx) ick))
      have HC := Lib.hid (fun (W : World) (hx : Ext wr W) => checkMark_any (HPX.out W hx))
      have HEK := Lib.hid ek
      clear hpp ick ek
      by_cases g1 : checkM (p, c) = 0
      · have HG1 := Lib.hid g1
        rw [g1] at HC
        clear g1
        cases g2 : signB s with
        | false =>
          have HF := Lib.hid (HI.out.trans (checkAF_sign HEK.out HG1.out g2))
          go_wp2_with (first
            | (go_at_call 89; go_must ((with_reducible refine (HC.out _ (by repeat (first | (with_reducible exact ext_refl _) | (with_reducible assumption) | (with_reducible refine ext_drew ?_) | (with_reducible refine ext_drewN ?_ _) | (with_reducible refine ext_alloc ?_ _) | (with_reducible refine ext_set ?_ (by first | omega | (simp <;> omega)) _) | (with_reducible refine ext_trans ?_ (by with_reducible assumption))))).mono ?_); rintro e w1 ⟨rfl, hx1⟩; have x0 := (hx1.cells b (o + k * 3) (by first | omega | (simp <;> omega))).trans (show _ = some (.slice ap p.length cp) by first | assumption | go_simp); have x1 := (hx1.cells b (o + k * 3 + 1) (by first | omega | (simp <;> omega))).trans (show _ = some (.int .i64 c) by first | assumption | go_simp); have x2 := (hx1.cells b (o + k * 3 + 2) (by first | omega | (simp <;> omega))).trans (show _ = some (.int .u8 s.toNat) by first | assumption | go_simp); have HX1 := Lib.hid hx1; clear hx1))
            | (go_at_call 90; ((with_reducible refine (isSign_any _ _).mono ?_); rintro e w' ⟨rfl, rfl⟩)))
          go_ret
          exact ⟨ri HF.out.symm, ext_trans HX.out HX1.out⟩
        | true =>
          go_wp2_with (first
            | (go_at_call 89; go_must ((with_reducible refine (HC.out _ (by repeat (first | (with_reducible exact ext_refl _) | (with_reducible assumption) | (with_reducible refine ext_drew ?_) | (with_reducible refine ext_drewN ?_ _) | (with_reducible refine ext_alloc ?_ _) | (with_reducible refine ext_set ?_ (by first | omega | (simp <;> omega)) _) | (with_reducible refine ext_trans ?_ (by with_reducible assumption))))).mono ?_); rintro e w1 ⟨rfl, hx1⟩; have x0 := (hx1.cells b (o + k * 3) (by first | omega | (simp <;> omega))).trans (show _ = some (.slice ap p.length cp) by first | assumption | go_simp); have x1 := (hx1.cells b (o + k * 3 + 1) (by first | omega | (simp <;> omega))).trans (show _ = some (.int .i64 c) by first | assumption | go_simp); have x2 := (hx1.cells b (o + k * 3 + 2) (by first | omega | (simp <;> omega))).trans (show _ = some (.int .u8 s.toNat) by first | assumption | go_simp); have HX1 := Lib.hid hx1; clear hx1))
            | (go_at_call 90; ((with_reducible refine (isSign_any _ _).mono ?_); rintro e w' ⟨rfl, rfl⟩)))
          have hsz1 := HX1.out.size
          (try simp at hsz1)
          have hbw : b < w1.heap.size := by omega
          by_cases hk0 : k = 0
          · have t8 : decide (0 < (k : Int)) = false := decide_eq_false (by omega)
            have t8b : decide (0 < k) = false := decide_eq_false (by omega)
            have HF := Lib.hid (HI.out.trans (checkAF_first HEK.out HG1.out g2 hk0))
            clear hk0
            refine wp_name (fun W2 eW2 => ?_)
            have e0 : W2.cell? ⟨b, o + k * 3, none⟩ = some (.slice ap p.length cp) := by rw [eW2]; go_simp
            have e1 : W2.cell? ⟨b, o + k * 3 + 1, none⟩ = some (.int .i64 c) := by rw [eW2]; go_simp
            have e2 : W2.cell? ⟨b, o + k * 3 + 2, none⟩ = some (.int .u8 s.toNat) := by rw [eW2]; go_simp
            have zW2_0 : b < W2.heap.size := by rw [eW2]; first | assumption | omega | (simp <;> omega)
            have hw2 : Ext wr W2 := by rw [eW2]; exact ext_trans (ext_refl _) (ext_trans HX1.out (by repeat (first | (with_reducible exact ext_refl _) | (with_reducible assumption) | (with_reducible refine ext_drew ?_) | (with_reducible refine ext_drewN ?_ _) | (with_reducible refine ext_alloc ?_ _) | (with_reducible refine ext_set ?_ (by first | omega | (simp <;> omega)) _) | (with_reducible refine ext_trans ?_ (by with_reducible assumption)))))
            clear eW2
            refine wp_region_later fol (by kernel_rfl) (fun hlater => ?_)
            repeat (go_big_quiet_step ((fail)))
            refine wpQuiet_nil ?_
            rintro w3 ⟨⟨w3x, hx3⟩, rfl⟩
            clear hlater
            go_wp2_with fail
            go_roundw
            case rel => exact ⟨k + 1, by omega, by go_num, HF, ext_trans HX.out (ext_trans hw2 hx3)⟩
            case measure => simp [intOf]; omega
          · have hk1 : 0 < k := by omega
            have t8 : decide (0 < (k : Int)) = true := decide_eq_true (by omega)
            have t8b : decide (0 < k) = true := decide_eq_true (by omega)
            clear hk0
            obtain ⟨b', o', p1, d1, s1, ap1, cp1, ea, _, ek1, ic1, hp1, u0, u1, u2⟩ := atm_at (HL.out.ext gAt HX.out) (i := k - 1) (by omega)
            obtain ⟨rfl, rfl⟩ : b = b' ∧ o = o' := by injection ea with ea; injection ea with ea1 ea2; exact ⟨ea1, ea2⟩
            clear ea
            have HP1 := Lib.hid (fun (W : World) (hx : Ext wr W) => (rmk_of' (hp1.ext gStp hx) ic1))
            have HOR := Lib.hid (fun (W : World) (hx : Ext wr W) => orderOf_any (HP1.out W hx) (HPX.out W hx))
            have HE1 := Lib.hid ek1
            clear hp1 ic1 ek1
            have x6 := (HX1.out.cells b (o + (k - 1) * 3) (by first | omega | (simp <;> omega))).trans (show _ = some (.slice ap1 p1.length cp1) by first | assumption | go_simp)
            have x7 := (HX1.out.cells b (o + (k - 1) * 3 + 1) (by first | omega | (simp <;> omega))).trans (show _ = some (.int .i64 d1) by first | assumption | go_simp)
            have x8 := (HX1.out.cells b (o + (k - 1) * 3 + 2) (by first | omega | (simp <;> omega))).trans (show _ = some (.int .u8 s1.toNat) by first | assumption | go_simp)
            by_cases g4 : 0 ≤ ordM (p1, d1) (p, c)
            · have HF := Lib.hid (HI.out.trans (checkAF_bad HEK.out HE1.out hk1 HG1.out g2 g4))
              have t9 : decide (0 ≤ ordM (p1, d1) (p, c)) = true := decide_eq_true g4
              generalize ordM (p1, d1) (p, c) = od at *
              clear g4 HE1
              refine wp_name (fun W2 eW2 => ?_)
              have e0 : W2.cell? ⟨b, o + k * 3, none⟩ = some (.slice ap p.length cp) := by rw [eW2]; go_simp
              have e1 : W2.cell? ⟨b, o + k * 3 + 1, none⟩ = some (.int .i64 c) := by rw [eW2]; go_simp
              have e2 : W2.cell? ⟨b, o + k * 3 + 2, none⟩ = some (.int .u8 s.toNat) := by rw [eW2]; go_simp
              have e6 : W2.cell? ⟨b, o + (k - 1) * 3, none⟩ = some (.slice ap1 p1.length cp1) := by rw [eW2]; go_simp
              have e7 : W2.cell? ⟨b, o + (k - 1) * 3 + 1, none⟩ = some (.int .i64 d1) := by rw [eW2]; go_simp
              have e8 : W2.cell? ⟨b, o + (k - 1) * 3 + 2, none⟩ = some (.int .u8 s1.toNat) := by rw [eW2]; go_simp
              have zW2_0 : b < W2.heap.size := by rw [eW2]; first | assumption | omega | (simp <;> omega)
              have hw2 : Ext wr W2 := by rw [eW2]; exact ext_trans (ext_refl _) (ext_trans HX1.out (by repeat (first | (with_reducible exact ext_refl _) | (with_reducible assumption) | (with_reducible refine ext_drew ?_) | (with_reducible refine ext_drewN ?_ _) | (with_reducible refine ext_alloc ?_ _) | (with_reducible refine ext_set ?_ (by first | omega | (simp <;> omega)) _) | (with_reducible refine ext_trans ?_ (by with_reducible assumption)))))
              clear eW2
              refine wp_region_later fol (by kernel_rfl) (fun hlater => ?_)
              repeat (go_big_quiet_step ((first
                  | (go_at_call 91; (with_reducible exact later_of (HOR.out _ (ext_trans hw2 (Later.ext _))))))))
              refine wpQuiet_nil ?_
              rintro w3 ⟨⟨w3x, hx3⟩, rfl⟩
              clear hlater
              go_wp2_with fail
              go_ret
              exact ⟨ri HF.out.symm, ext_trans HX.out (ext_trans hw2 hx3)⟩
            · have HF := Lib.hid (HI.out.trans (checkAF_next HEK.out HE1.out hk1 HG1.out g2 g4))
              have t9 : decide (0 ≤ ordM (p1, d1) (p, c)) = false := decide_eq_false g4
              generalize ordM (p1, d1) (p, c) = od at *
              clear g4 HE1
              refine wp_name (fun W2 eW2 => ?_)
              have e0 : W2.cell? ⟨b, o + k * 3, none⟩ = some (.slice ap p.length cp) := by rw [eW2]; go_simp
              have e1 : W2.cell? ⟨b, o + k * 3 + 1, none⟩ = some (.int .i64 c) := by rw [eW2]; go_simp
              have e2 : W2.cell? ⟨b, o + k * 3 + 2, none⟩ = some (.int .u8 s.toNat) := by rw [eW2]; go_simp
              have e6 : W2.cell? ⟨b, o + (k - 1) * 3, none⟩ = some (.slice ap1 p1.length cp1) := by rw [eW2]; go_simp
              have e7 : W2.cell? ⟨b, o + (k - 1) * 3 + 1, none⟩ = some (.int .i64 d1) := by rw [eW2]; go_simp
              have e8 : W2.cell? ⟨b, o + (k - 1) * 3 + 2, none⟩ = some (.int .u8 s1.toNat) := by rw [eW2]; go_simp
              have zW2_0 : b < W2.heap.size := by rw [eW2]; first | assumption | omega | (simp <;> omega)
              have hw2 : Ext wr W2 := by rw [eW2]; exact ext_trans (ext_refl _) (ext_trans HX1.out (by repeat (first | (with_reducible exact ext_refl _) | (with_reducible assumption) | (with_reducible refine ext_drew ?_) | (with_reducible refine ext_drewN ?_ _) | (with_reducible refine ext_alloc ?_ _) | (with_reducible refine ext_set ?_ (by first | omega | (simp <;> omega)) _) | (with_reducible refine ext_trans ?_ (by with_reducible assumption)))))
              clear eW2
              refine wp_region_later fol (by kernel_rfl) (fun hlater => ?_)
              repeat (go_big_quiet_step ((first
                  | (go_at_call 91; (with_reducible exact later_of (HOR.out _ (ext_trans hw2 (Later.ext _))))))))
              refine wpQuiet_nil ?_
              rintro w3 ⟨⟨w3x, hx3⟩, rfl⟩
              clear hlater
              go_wp2_with fail
              go_roundw
              case rel => exact ⟨k + 1, by omega, by go_num, HF, ext_trans HX.out (ext_trans hw2 hx3)⟩
              case measure => simp [intOf]; omega
      · have HF := Lib.hid (HI.out.trans (checkAF_mark HEK.out g1))
        have t1 : (checkM (p, c) != 0) = true := by simpa using g1
        generalize checkM (p, c) = m at *
        clear g1
        go_wp2_with (first
            | (go_at_call 89; go_must ((with_reducible refine (HC.out _ (by repeat (first | (with_reducible exact ext_refl _) | (with_reducible assumption) | (with_reducible refine ext_drew ?_) | (with_reducible refine ext_drewN ?_ _) | (with_reducible refine ext_alloc ?_ _) | (with_reducible refine ext_set ?_ (by first | omega | (simp <;> omega)) _) | (with_reducible refine ext_trans ?_ (by with_reducible assumption))))).mono ?_); rintro e w1 ⟨rfl, hx1⟩; have x0 := (hx1.cells b (o + k * 3) (by first | omega | (simp <;> omega))).trans (show _ = some (.slice ap p.length cp) by first | assumption | go_simp); have x1 := (hx1.cells b (o + k * 3 + 1) (by first | omega | (simp <;> omega))).trans (show _ = some (.int .i64 c) by first | assumption | go_simp); have x2 := (hx1.cells b (o + k * 3 + 2) (by first | omega | (simp <;> omega))).trans (show _ = some (.int .u8 s.toNat) by first | assumption | go_simp); have HX1 := Lib.hid hx1; clear hx1))
            | (go_at_call 90; ((with_reducible refine (isSign_any _ _).mono ?_); rintro e w' ⟨rfl, rfl⟩)))
        go_ret
        exact ⟨ri HF.out.symm, ext_trans HX.out HX1.out⟩
    · go_wp2 
      go_ret
      exact ⟨ri (by rw [HI.out, checkAF_end (by omega)]), HX.out⟩
end Go.Proofs.Ytghfmgndddjofaa
