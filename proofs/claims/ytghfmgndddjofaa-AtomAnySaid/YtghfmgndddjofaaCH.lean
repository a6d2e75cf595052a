/- AtomAny: what is put in whatever order is the same; what is taken is not there, and all else is: the walk. -/
import Derived.Test.YtghfmgndddjofaaCF
import Derived.Test.YtghfmgndddjofaaC7
import Derived.Test.YtghfmgndddjofaaPN
set_option linter.unusedVariables false
set_option linter.unusedSimpArgs false
namespace Go.Proofs.Ytghfmgndddjofaa
open Go Go.RowKit Go.BigFrame Cp

theorem putE_0 {l m : List At} (h : (putE l m).2 = 0) : checkA l = 0 ∧ checkA m = 0 ∧ (mergeA l m).length ≤ 300 ∧ putE l m = (mergeA l m, 0) := by
  by_cases h1 : checkA l = 0
  · by_cases h2 : checkA m = 0
    · by_cases h3 : 300 < (mergeA l m).length
      · rw [putE_many h1 h2 h3] at h; simp at h
      · exact ⟨h1, h2, by omega, putE_ok h1 h2 h3⟩
    · rw [putE_m h1 h2] at h; exact absurd h h2
  · rw [putE_l h1] at h; exact absurd h h1
theorem putE_comm {l m : List At} (h : (putE l m).2 = 0) : putE m l = (mergeA l m, 0) := by
  obtain ⟨h1, h2, h3, _⟩ := putE_0 h
  have e := merge_comm (right_of h1) (right_of h2)
  rw [putE_ok h2 h1 (by rw [← e]; omega), ← e]
theorem putE_assoc {l m n : List At} (h : (putE l m).2 = 0) (g : (putE (mergeA l m) n).2 = 0) (k : (putE m n).2 = 0) : putE l (mergeA m n) = (mergeA (mergeA l m) n, 0) := by
  obtain ⟨h1, h2, h3, _⟩ := putE_0 h
  obtain ⟨_, g2, g3, _⟩ := putE_0 g
  obtain ⟨_, _, k3, _⟩ := putE_0 k
  have e := merge_assoc (right_of h1) (right_of h2) (right_of g2)
  have hr := mergeA_right (right_of h2) (right_of g2).2
  rw [putE_ok h1 (by rw [right_to hr, if_neg (by omega)]) (by rw [e]; omega), e]
set_option maxRecDepth 100000 in
set_option maxHeartbeats 4000000 in
theorem atomAny_any {F G H J : Nat → Prop} {w : World} {v u s t : Value} {l m n : List At} {ms : List Mk} (h : RSl RAt 3 F w v l) (k : RSl RAt 3 G w u m) (q : RSl RAt 3 H w s n) (r : RSl RMk 2 J w t ms) :
    Calls Try.prog 11 #[v, u, s, t] w fun e w' => e = .returned (.bool true) ∧ Ext w w' := by
  have HL := Lib.hid (fun (W : World) (hx : Ext w W) => h.ext gAt hx)
  have HM := Lib.hid (fun (W : World) (hx : Ext w W) => k.ext gAt hx)
  have HN := Lib.hid (fun (W : World) (hx : Ext w W) => q.ext gAt hx)
  have HMS := Lib.hid (fun (W : World) (hx : Ext w W) => r.ext gMk hx)
  have HTK := Lib.hid (fun (W : World) (hx : Ext w W) => takeP_any (h.ext gAt hx) (r.ext gMk hx))
  obtain ⟨a0, n0, c0, rfl⟩ := h.slice
  obtain rfl : n0 = l.length := h.len.1
  obtain ⟨b0, m0, d0, rfl⟩ := k.slice
  obtain ⟨e0, k0, f0, rfl⟩ := q.slice
  obtain ⟨e1, k1, f1, rfl⟩ := r.slice
  clear h k q r
  have HP1 := Lib.hid (fun (W : World) (hx : Ext w W) => putAtoms_any (HL.out W hx) (HM.out W hx))
  have HP2 := Lib.hid (fun (W : World) (hx : Ext w W) => putAtoms_any (HM.out W hx) (HL.out W hx))
  have HP4 := Lib.hid (fun (W : World) (hx : Ext w W) => putAtoms_any (HM.out W hx) (HN.out W hx))
  have M1 : True := trivial
  have M2 : True := trivial
  have M3 : True := trivial
  have M4 : True := trivial
  have M5 : True := trivial
  have M6 : True := trivial
  by_cases h1 : checkA l = 0
  · rw [takeE_ok h1] at HTK
    have HTL := Lib.hid (takeA_len l ms)
    have hl3 : l.length ≤ 300 := (checkA_ok h1).1
    by_cases h2 : (putE l m).2 = 0
    · have HAS := Lib.hid (fun (g : (putE (mergeA l m) n).2 = 0) (k : (putE m n).2 = 0) => putE_assoc h2 g k)
      rw [putE_comm h2] at HP2
      rw [(putE_0 h2).2.2.2] at HP1
      have HP3 := Lib.hid (fun (W : World) (hx : Ext w W) (G : Nat → Prop) (v : Value) (hv : RSl RAt 3 G W v (mergeA l m)) => putAtoms_any hv (HN.out W hx))
      have HP5 := Lib.hid (fun (W : World) (hx : Ext w W) (G : Nat → Prop) (v : Value) (hv : RSl RAt 3 G W v (mergeA m n)) => putAtoms_any (HL.out W hx) hv)
      by_cases h3 : (putE (mergeA l m) n).2 = 0
      · by_cases h4 : (putE m n).2 = 0
        · have HAS2 := HAS.out h3 h4
          rw [HAS2] at HP5
          rw [(putE_0 h3).2.2.2] at HP3
          rw [(putE_0 h4).2.2.2] at HP4
          clear HAS HAS2 h1 h2 h3 h4
          generalize mergeA (mergeA l m) n = lmn at *
          generalize mergeA m n = mn at *
          generalize mergeA l m = lm at *
          go_enter Try.func11, Try.ntmps11
          go_wp2_with (first
            | (go_at_call 44; go_must ((with_reducible refine (atomBegun_any _).mono ?_); rintro e w9 ⟨rfl, hx9⟩; have hz9 := hx9.size; (try simp at hz9)))
            | (go_at_call 38; (clear M1); go_must ((with_reducible refine (HP1.out _ (by repeat (first | (with_reducible exact ext_refl _) | (with_reducible assumption) | (with_reducible refine ext_drew ?_) | (with_reducible refine ext_drewN ?_ _) | (with_reducible refine ext_alloc ?_ _) | (with_reducible refine ext_set ?_ (by first | omega | (simp <;> omega)) _) | (with_reducible refine ext_trans ?_ (by with_reducible assumption))))).mono ?_); rintro e w1 ⟨v1, rfl, hv1, hx1⟩; obtain ⟨a1, n1, c1, rfl⟩ := hv1.slice; have HV1 := Lib.hid hv1; clear hv1; have hz1 := hx1.size; (try simp at hz1)))
            | (go_at_call 38; (clear M2); go_must ((with_reducible refine (HP2.out _ (by repeat (first | (with_reducible exact ext_refl _) | (with_reducible assumption) | (with_reducible refine ext_drew ?_) | (with_reducible refine ext_drewN ?_ _) | (with_reducible refine ext_alloc ?_ _) | (with_reducible refine ext_set ?_ (by first | omega | (simp <;> omega)) _) | (with_reducible refine ext_trans ?_ (by with_reducible assumption))))).mono ?_); rintro e w2 ⟨v2, rfl, hv2, hx2⟩; obtain ⟨a2, n2, c2, rfl⟩ := hv2.slice; have HV2 := Lib.hid hv2; clear hv2; have hz2 := hx2.size; (try simp at hz2)))
            | (go_at_call 47; (clear M6); go_must ((with_reducible refine (sameAtoms_any (HV1.out.ext gAt (by repeat (first | (with_reducible exact ext_refl _) | (with_reducible assumption) | (with_reducible refine ext_drew ?_) | (with_reducible refine ext_drewN ?_ _) | (with_reducible refine ext_alloc ?_ _) | (with_reducible refine ext_set ?_ (by first | omega | (simp <;> omega)) _) | (with_reducible refine ext_trans ?_ (by with_reducible assumption))))) (HV2.out.ext gAt (by repeat (first | (with_reducible exact ext_refl _) | (with_reducible assumption) | (with_reducible refine ext_drew ?_) | (with_reducible refine ext_drewN ?_ _) | (with_reducible refine ext_alloc ?_ _) | (with_reducible refine ext_set ?_ (by first | omega | (simp <;> omega)) _) | (with_reducible refine ext_trans ?_ (by with_reducible assumption)))))).mono ?_); rintro e w3 ⟨rfl, hx3⟩; have hz3 := hx3.size; (try simp at hz3)))
            | (go_at_call 38; (clear M3); go_must ((with_reducible refine (HP3.out _ (by repeat (first | (with_reducible exact ext_refl _) | (with_reducible assumption) | (with_reducible refine ext_drew ?_) | (with_reducible refine ext_drewN ?_ _) | (with_reducible refine ext_alloc ?_ _) | (with_reducible refine ext_set ?_ (by first | omega | (simp <;> omega)) _) | (with_reducible refine ext_trans ?_ (by with_reducible assumption)))) _ _ (HV1.out.ext gAt (by repeat (first | (with_reducible exact ext_refl _) | (with_reducible assumption) | (with_reducible refine ext_drew ?_) | (with_reducible refine ext_drewN ?_ _) | (with_reducible refine ext_alloc ?_ _) | (with_reducible refine ext_set ?_ (by first | omega | (simp <;> omega)) _) | (with_reducible refine ext_trans ?_ (by with_reducible assumption)))))).mono ?_); rintro e w4 ⟨v4, rfl, hv4, hx4⟩; obtain ⟨a4, n4, c4, rfl⟩ := hv4.slice; have HV4 := Lib.hid hv4; clear hv4; have hz4 := hx4.size; (try simp at hz4)))
            | (go_at_call 38; (clear M4); go_must ((with_reducible refine (HP4.out _ (by repeat (first | (with_reducible exact ext_refl _) | (with_reducible assumption) | (with_reducible refine ext_drew ?_) | (with_reducible refine ext_drewN ?_ _) | (with_reducible refine ext_alloc ?_ _) | (with_reducible refine ext_set ?_ (by first | omega | (simp <;> omega)) _) | (with_reducible refine ext_trans ?_ (by with_reducible assumption))))).mono ?_); rintro e w5 ⟨v5, rfl, hv5, hx5⟩; obtain ⟨a5, n5, c5, rfl⟩ := hv5.slice; have HV5 := Lib.hid hv5; clear hv5; have hz5 := hx5.size; (try simp at hz5)))
            | (go_at_call 38; go_must ((with_reducible refine (HP5.out _ (by repeat (first | (with_reducible exact ext_refl _) | (with_reducible assumption) | (with_reducible refine ext_drew ?_) | (with_reducible refine ext_drewN ?_ _) | (with_reducible refine ext_alloc ?_ _) | (with_reducible refine ext_set ?_ (by first | omega | (simp <;> omega)) _) | (with_reducible refine ext_trans ?_ (by with_reducible assumption)))) _ _ (HV5.out.ext gAt (by repeat (first | (with_reducible exact ext_refl _) | (with_reducible assumption) | (with_reducible refine ext_drew ?_) | (with_reducible refine ext_drewN ?_ _) | (with_reducible refine ext_alloc ?_ _) | (with_reducible refine ext_set ?_ (by first | omega | (simp <;> omega)) _) | (with_reducible refine ext_trans ?_ (by with_reducible assumption)))))).mono ?_); rintro e w6 ⟨v6, rfl, hv6, hx6⟩; obtain ⟨a6, n6, c6, rfl⟩ := hv6.slice; have HV6 := Lib.hid hv6; clear hv6; have hz6 := hx6.size; (try simp at hz6)))
            | (go_at_call 47; go_must ((with_reducible refine (sameAtoms_any (HV6.out.ext gAt (by repeat (first | (with_reducible exact ext_refl _) | (with_reducible assumption) | (with_reducible refine ext_drew ?_) | (with_reducible refine ext_drewN ?_ _) | (with_reducible refine ext_alloc ?_ _) | (with_reducible refine ext_set ?_ (by first | omega | (simp <;> omega)) _) | (with_reducible refine ext_trans ?_ (by with_reducible assumption))))) (HV4.out.ext gAt (by repeat (first | (with_reducible exact ext_refl _) | (with_reducible assumption) | (with_reducible refine ext_drew ?_) | (with_reducible refine ext_drewN ?_ _) | (with_reducible refine ext_alloc ?_ _) | (with_reducible refine ext_set ?_ (by first | omega | (simp <;> omega)) _) | (with_reducible refine ext_trans ?_ (by with_reducible assumption)))))).mono ?_); rintro e w7 ⟨rfl, hx7⟩; have hz7 := hx7.size; (try simp at hz7)))
            | (go_at_call 39; go_must ((with_reducible refine (HTK.out _ (by repeat (first | (with_reducible exact ext_refl _) | (with_reducible assumption) | (with_reducible refine ext_drew ?_) | (with_reducible refine ext_drewN ?_ _) | (with_reducible refine ext_alloc ?_ _) | (with_reducible refine ext_set ?_ (by first | omega | (simp <;> omega)) _) | (with_reducible refine ext_trans ?_ (by with_reducible assumption))))).mono ?_); rintro e w8 ⟨v8, rfl, hv8, hx8⟩; obtain ⟨a8, n8, c8, rfl⟩ := hv8.slice; obtain rfl : n8 = (takeA l ms).length := hv8.len.1; have HV8 := Lib.hid hv8; clear hv8; have hz8 := hx8.size; (try simp at hz8))))
          refine wp_name (fun wb ewb => ?_)
          have hwb : Ext w wb := by rw [ewb]; exact (by repeat (first | (with_reducible exact ext_refl _) | (with_reducible assumption) | (with_reducible refine ext_drew ?_) | (with_reducible refine ext_drewN ?_ _) | (with_reducible refine ext_alloc ?_ _) | (with_reducible refine ext_set ?_ (by first | omega | (simp <;> omega)) _) | (with_reducible refine ext_trans ?_ (by with_reducible assumption))))
          have HT := Lib.hid (show RSl RAt 3 (fun _ => True) wb (.slice a8 (takeA l ms).length c8) (takeA l ms) from RSl.more gAt (fun _ _ _ => trivial) (HV8.out.ext gAt (by rw [ewb]; exact (by repeat (first | (with_reducible exact ext_refl _) | (with_reducible assumption) | (with_reducible refine ext_drew ?_) | (with_reducible refine ext_drewN ?_ _) | (with_reducible refine ext_alloc ?_ _) | (with_reducible refine ext_set ?_ (by first | omega | (simp <;> omega)) _) | (with_reducible refine ext_trans ?_ (by with_reducible assumption)))))))
          clear ewb
          have HB := Lib.hid hwb
          clear hwb
          go_loopw [20] (fun iv wr => ∃ k : Nat, k ≤ l.length ∧ iv = .int .i64 k ∧ Ext wb wr) (fun iv _ => l.length - (intOf iv).toNat)
          case atStart => exact ⟨0, Nat.zero_le _, rfl, ext_refl _⟩
          case round =>
            obtain ⟨k, hk, rfl, hx⟩ := hrel
            have HX := Lib.hid hx
            clear hx
            by_cases hlt : k < l.length
            · obtain ⟨b, o, p, d, s, ap, cp, rfl, hb, ek, ick, hpp, y0, y1, y2⟩ := atm_at (HL.out wr (ext_trans HB.out HX.out)) hlt
              have HSM := Lib.hid (fun (W : World) (hx : Ext wr W) => hasMark_any (HT.out.ext gAt (ext_trans HX.out hx)) (rmk_of' (hpp.ext gStp hx) ick))
              have HSG := Lib.hid (fun (W : World) (hx : Ext wr W) => hasGone_any (HMS.out W (ext_trans (ext_trans HB.out HX.out) hx)) (rmk_of' (hpp.ext gStp hx) ick))
              rw [hasM_take (ms := ms) (List.mem_of_getElem? ek)] at HSM
              have kk0 : (0 : Int) ≤ (k : Int) := Int.natCast_nonneg k
              have kk1 : (k : Int) < (l.length : Int) := by exact_mod_cast hlt
              clear ek ick hpp y2
              simp only at HSM HSG
              generalize hasG ms (p, d) = gb at *
              cases gb
              all_goals
                go_wp2_with fail
                refine wp_name (fun W1 eW1 => ?_)
                have j0 : W1.cell? ⟨b, o + k * 3, none⟩ = some (.slice ap p.length cp) := by rw [eW1]; go_simp
                have j1 : W1.cell? ⟨b, o + k * 3 + 1, none⟩ = some (.int .i64 d) := by rw [eW1]; go_simp
                have zW1_0 : b < W1.heap.size := by rw [eW1]; first | assumption | omega | (simp <;> omega)
                have hw1 : Ext wr W1 := by rw [eW1]; exact (by repeat (first | (with_reducible exact ext_refl _) | (with_reducible assumption) | (with_reducible refine ext_drew ?_) | (with_reducible refine ext_drewN ?_ _) | (with_reducible refine ext_alloc ?_ _) | (with_reducible refine ext_set ?_ (by first | omega | (simp <;> omega)) _) | (with_reducible refine ext_trans ?_ (by with_reducible assumption))))
                clear eW1
                refine wp_region_later fol (by kernel_rfl) (fun hlater => ?_)
                repeat (go_big_quiet_step ((first
                    | (go_at_call 48; (with_reducible exact later_of (HSM.out _ (ext_trans hw1 (Later.ext _)))))
                    | (go_at_call 49; (with_reducible exact later_of (HSG.out _ (ext_trans hw1 (Later.ext _))))))))
                refine wpQuiet_nil ?_
                rintro w11 ⟨⟨w11x, hx11⟩, rfl⟩
                clear hlater
                go_wp2_with fail
                go_roundw
                case rel => exact ⟨k + 1, by omega, by go_num, ext_trans (ext_trans HX.out hw1) hx11⟩
                case measure => simp [intOf]; omega
            · obtain rfl : k = l.length := by omega
              go_wp2
              go_ret
              exact ⟨rb (decide_eq_true HTL.out), ext_trans HB.out HX.out⟩
        · have t4 : ((putE m n).2 == 0) = false := by simpa using h4
          rw [(putE_0 h3).2.2.2] at HP3
          clear HAS h1 h2 h3 h4
          generalize mergeA (mergeA l m) n = lmn at *
          generalize mergeA l m = lm at *
          generalize putE m n = mn at *
          go_enter Try.func11, Try.ntmps11
          go_wp2_with (first
            | (go_at_call 44; go_must ((with_reducible refine (atomBegun_any _).mono ?_); rintro e w9 ⟨rfl, hx9⟩; have hz9 := hx9.size; (try simp at hz9)))
            | (go_at_call 38; (clear M1); go_must ((with_reducible refine (HP1.out _ (by repeat (first | (with_reducible exact ext_refl _) | (with_reducible assumption) | (with_reducible refine ext_drew ?_) | (with_reducible refine ext_drewN ?_ _) | (with_reducible refine ext_alloc ?_ _) | (with_reducible refine ext_set ?_ (by first | omega | (simp <;> omega)) _) | (with_reducible refine ext_trans ?_ (by with_reducible assumption))))).mono ?_); rintro e w1 ⟨v1, rfl, hv1, hx1⟩; obtain ⟨a1, n1, c1, rfl⟩ := hv1.slice; have HV1 := Lib.hid hv1; clear hv1; have hz1 := hx1.size; (try simp at hz1)))
            | (go_at_call 38; (clear M2); go_must ((with_reducible refine (HP2.out _ (by repeat (first | (with_reducible exact ext_refl _) | (with_reducible assumption) | (with_reducible refine ext_drew ?_) | (with_reducible refine ext_drewN ?_ _) | (with_reducible refine ext_alloc ?_ _) | (with_reducible refine ext_set ?_ (by first | omega | (simp <;> omega)) _) | (with_reducible refine ext_trans ?_ (by with_reducible assumption))))).mono ?_); rintro e w2 ⟨v2, rfl, hv2, hx2⟩; obtain ⟨a2, n2, c2, rfl⟩ := hv2.slice; have HV2 := Lib.hid hv2; clear hv2; have hz2 := hx2.size; (try simp at hz2)))
            | (go_at_call 47; (clear M6); go_must ((with_reducible refine (sameAtoms_any (HV1.out.ext gAt (by repeat (first | (with_reducible exact ext_refl _) | (with_reducible assumption) | (with_reducible refine ext_drew ?_) | (with_reducible refine ext_drewN ?_ _) | (with_reducible refine ext_alloc ?_ _) | (with_reducible refine ext_set ?_ (by first | omega | (simp <;> omega)) _) | (with_reducible refine ext_trans ?_ (by with_reducible assumption))))) (HV2.out.ext gAt (by repeat (first | (with_reducible exact ext_refl _) | (with_reducible assumption) | (with_reducible refine ext_drew ?_) | (with_reducible refine ext_drewN ?_ _) | (with_reducible refine ext_alloc ?_ _) | (with_reducible refine ext_set ?_ (by first | omega | (simp <;> omega)) _) | (with_reducible refine ext_trans ?_ (by with_reducible assumption)))))).mono ?_); rintro e w3 ⟨rfl, hx3⟩; have hz3 := hx3.size; (try simp at hz3)))
            | (go_at_call 38; (clear M3); go_must ((with_reducible refine (HP3.out _ (by repeat (first | (with_reducible exact ext_refl _) | (with_reducible assumption) | (with_reducible refine ext_drew ?_) | (with_reducible refine ext_drewN ?_ _) | (with_reducible refine ext_alloc ?_ _) | (with_reducible refine ext_set ?_ (by first | omega | (simp <;> omega)) _) | (with_reducible refine ext_trans ?_ (by with_reducible assumption)))) _ _ (HV1.out.ext gAt (by repeat (first | (with_reducible exact ext_refl _) | (with_reducible assumption) | (with_reducible refine ext_drew ?_) | (with_reducible refine ext_drewN ?_ _) | (with_reducible refine ext_alloc ?_ _) | (with_reducible refine ext_set ?_ (by first | omega | (simp <;> omega)) _) | (with_reducible refine ext_trans ?_ (by with_reducible assumption)))))).mono ?_); rintro e w4 ⟨v4, rfl, hv4, hx4⟩; obtain ⟨a4, n4, c4, rfl⟩ := hv4.slice; have HV4 := Lib.hid hv4; clear hv4; have hz4 := hx4.size; (try simp at hz4)))
            | (go_at_call 38; (clear M4); go_must ((with_reducible refine (HP4.out _ (by repeat (first | (with_reducible exact ext_refl _) | (with_reducible assumption) | (with_reducible refine ext_drew ?_) | (with_reducible refine ext_drewN ?_ _) | (with_reducible refine ext_alloc ?_ _) | (with_reducible refine ext_set ?_ (by first | omega | (simp <;> omega)) _) | (with_reducible refine ext_trans ?_ (by with_reducible assumption))))).mono ?_); rintro e w5 ⟨v5, rfl, hv5, hx5⟩; obtain ⟨a5, n5, c5, rfl⟩ := hv5.slice; have HV5 := Lib.hid hv5; clear hv5; have hz5 := hx5.size; (try simp at hz5)))
            | (go_at_call 39; go_must ((with_reducible refine (HTK.out _ (by repeat (first | (with_reducible exact ext_refl _) | (with_reducible assumption) | (with_reducible refine ext_drew ?_) | (with_reducible refine ext_drewN ?_ _) | (with_reducible refine ext_alloc ?_ _) | (with_reducible refine ext_set ?_ (by first | omega | (simp <;> omega)) _) | (with_reducible refine ext_trans ?_ (by with_reducible assumption))))).mono ?_); rintro e w8 ⟨v8, rfl, hv8, hx8⟩; obtain ⟨a8, n8, c8, rfl⟩ := hv8.slice; obtain rfl : n8 = (takeA l ms).length := hv8.len.1; have HV8 := Lib.hid hv8; clear hv8; have hz8 := hx8.size; (try simp at hz8))))
          refine wp_name (fun wb ewb => ?_)
          have hwb : Ext w wb := by rw [ewb]; exact (by repeat (first | (with_reducible exact ext_refl _) | (with_reducible assumption) | (with_reducible refine ext_drew ?_) | (with_reducible refine ext_drewN ?_ _) | (with_reducible refine ext_alloc ?_ _) | (with_reducible refine ext_set ?_ (by first | omega | (simp <;> omega)) _) | (with_reducible refine ext_trans ?_ (by with_reducible assumption))))
          have HT := Lib.hid (show RSl RAt 3 (fun _ => True) wb (.slice a8 (takeA l ms).length c8) (takeA l ms) from RSl.more gAt (fun _ _ _ => trivial) (HV8.out.ext gAt (by rw [ewb]; exact (by repeat (first | (with_reducible exact ext_refl _) | (with_reducible assumption) | (with_reducible refine ext_drew ?_) | (with_reducible refine ext_drewN ?_ _) | (with_reducible refine ext_alloc ?_ _) | (with_reducible refine ext_set ?_ (by first | omega | (simp <;> omega)) _) | (with_reducible refine ext_trans ?_ (by with_reducible assumption)))))))
          clear ewb
          have HB := Lib.hid hwb
          clear hwb
          go_loopw [20] (fun iv wr => ∃ k : Nat, k ≤ l.length ∧ iv = .int .i64 k ∧ Ext wb wr) (fun iv _ => l.length - (intOf iv).toNat)
          case atStart => exact ⟨0, Nat.zero_le _, rfl, ext_refl _⟩
          case round =>
            obtain ⟨k, hk, rfl, hx⟩ := hrel
            have HX := Lib.hid hx
            clear hx
            by_cases hlt : k < l.length
            · obtain ⟨b, o, p, d, s, ap, cp, rfl, hb, ek, ick, hpp, y0, y1, y2⟩ := atm_at (HL.out wr (ext_trans HB.out HX.out)) hlt
              have HSM := Lib.hid (fun (W : World) (hx : Ext wr W) => hasMark_any (HT.out.ext gAt (ext_trans HX.out hx)) (rmk_of' (hpp.ext gStp hx) ick))
              have HSG := Lib.hid (fun (W : World) (hx : Ext wr W) => hasGone_any (HMS.out W (ext_trans (ext_trans HB.out HX.out) hx)) (rmk_of' (hpp.ext gStp hx) ick))
              rw [hasM_take (ms := ms) (List.mem_of_getElem? ek)] at HSM
              have kk0 : (0 : Int) ≤ (k : Int) := Int.natCast_nonneg k
              have kk1 : (k : Int) < (l.length : Int) := by exact_mod_cast hlt
              clear ek ick hpp y2
              simp only at HSM HSG
              generalize hasG ms (p, d) = gb at *
              cases gb
              all_goals
                go_wp2_with fail
                refine wp_name (fun W1 eW1 => ?_)
                have j0 : W1.cell? ⟨b, o + k * 3, none⟩ = some (.slice ap p.length cp) := by rw [eW1]; go_simp
                have j1 : W1.cell? ⟨b, o + k * 3 + 1, none⟩ = some (.int .i64 d) := by rw [eW1]; go_simp
                have zW1_0 : b < W1.heap.size := by rw [eW1]; first | assumption | omega | (simp <;> omega)
                have hw1 : Ext wr W1 := by rw [eW1]; exact (by repeat (first | (with_reducible exact ext_refl _) | (with_reducible assumption) | (with_reducible refine ext_drew ?_) | (with_reducible refine ext_drewN ?_ _) | (with_reducible refine ext_alloc ?_ _) | (with_reducible refine ext_set ?_ (by first | omega | (simp <;> omega)) _) | (with_reducible refine ext_trans ?_ (by with_reducible assumption))))
                clear eW1
                refine wp_region_later fol (by kernel_rfl) (fun hlater => ?_)
                repeat (go_big_quiet_step ((first
                    | (go_at_call 48; (with_reducible exact later_of (HSM.out _ (ext_trans hw1 (Later.ext _)))))
                    | (go_at_call 49; (with_reducible exact later_of (HSG.out _ (ext_trans hw1 (Later.ext _))))))))
                refine wpQuiet_nil ?_
                rintro w11 ⟨⟨w11x, hx11⟩, rfl⟩
                clear hlater
                go_wp2_with fail
                go_roundw
                case rel => exact ⟨k + 1, by omega, by go_num, ext_trans (ext_trans HX.out hw1) hx11⟩
                case measure => simp [intOf]; omega
            · obtain rfl : k = l.length := by omega
              go_wp2
              go_ret
              exact ⟨rb (decide_eq_true HTL.out), ext_trans HB.out HX.out⟩
      · have t3 : ((putE (mergeA l m) n).2 == 0) = false := by simpa using h3
        clear HAS h1 h2 h3
        generalize putE (mergeA l m) n = lmn at *
        generalize mergeA l m = lm at *
        generalize putE m n = mn at *
        go_enter Try.func11, Try.ntmps11
        go_wp2_with (first
          | (go_at_call 44; go_must ((with_reducible refine (atomBegun_any _).mono ?_); rintro e w9 ⟨rfl, hx9⟩; have hz9 := hx9.size; (try simp at hz9)))
          | (go_at_call 38; (clear M1); go_must ((with_reducible refine (HP1.out _ (by repeat (first | (with_reducible exact ext_refl _) | (with_reducible assumption) | (with_reducible refine ext_drew ?_) | (with_reducible refine ext_drewN ?_ _) | (with_reducible refine ext_alloc ?_ _) | (with_reducible refine ext_set ?_ (by first | omega | (simp <;> omega)) _) | (with_reducible refine ext_trans ?_ (by with_reducible assumption))))).mono ?_); rintro e w1 ⟨v1, rfl, hv1, hx1⟩; obtain ⟨a1, n1, c1, rfl⟩ := hv1.slice; have HV1 := Lib.hid hv1; clear hv1; have hz1 := hx1.size; (try simp at hz1)))
          | (go_at_call 38; (clear M2); go_must ((with_reducible refine (HP2.out _ (by repeat (first | (with_reducible exact ext_refl _) | (with_reducible assumption) | (with_reducible refine ext_drew ?_) | (with_reducible refine ext_drewN ?_ _) | (with_reducible refine ext_alloc ?_ _) | (with_reducible refine ext_set ?_ (by first | omega | (simp <;> omega)) _) | (with_reducible refine ext_trans ?_ (by with_reducible assumption))))).mono ?_); rintro e w2 ⟨v2, rfl, hv2, hx2⟩; obtain ⟨a2, n2, c2, rfl⟩ := hv2.slice; have HV2 := Lib.hid hv2; clear hv2; have hz2 := hx2.size; (try simp at hz2)))
          | (go_at_call 47; (clear M6); go_must ((with_reducible refine (sameAtoms_any (HV1.out.ext gAt (by repeat (first | (with_reducible exact ext_refl _) | (with_reducible assumption) | (with_reducible refine ext_drew ?_) | (with_reducible refine ext_drewN ?_ _) | (with_reducible refine ext_alloc ?_ _) | (with_reducible refine ext_set ?_ (by first | omega | (simp <;> omega)) _) | (with_reducible refine ext_trans ?_ (by with_reducible assumption))))) (HV2.out.ext gAt (by repeat (first | (with_reducible exact ext_refl _) | (with_reducible assumption) | (with_reducible refine ext_drew ?_) | (with_reducible refine ext_drewN ?_ _) | (with_reducible refine ext_alloc ?_ _) | (with_reducible refine ext_set ?_ (by first | omega | (simp <;> omega)) _) | (with_reducible refine ext_trans ?_ (by with_reducible assumption)))))).mono ?_); rintro e w3 ⟨rfl, hx3⟩; have hz3 := hx3.size; (try simp at hz3)))
          | (go_at_call 38; (clear M3); go_must ((with_reducible refine (HP3.out _ (by repeat (first | (with_reducible exact ext_refl _) | (with_reducible assumption) | (with_reducible refine ext_drew ?_) | (with_reducible refine ext_drewN ?_ _) | (with_reducible refine ext_alloc ?_ _) | (with_reducible refine ext_set ?_ (by first | omega | (simp <;> omega)) _) | (with_reducible refine ext_trans ?_ (by with_reducible assumption)))) _ _ (HV1.out.ext gAt (by repeat (first | (with_reducible exact ext_refl _) | (with_reducible assumption) | (with_reducible refine ext_drew ?_) | (with_reducible refine ext_drewN ?_ _) | (with_reducible refine ext_alloc ?_ _) | (with_reducible refine ext_set ?_ (by first | omega | (simp <;> omega)) _) | (with_reducible refine ext_trans ?_ (by with_reducible assumption)))))).mono ?_); rintro e w4 ⟨v4, rfl, hv4, hx4⟩; obtain ⟨a4, n4, c4, rfl⟩ := hv4.slice; have HV4 := Lib.hid hv4; clear hv4; have hz4 := hx4.size; (try simp at hz4)))
          | (go_at_call 38; (clear M4); go_must ((with_reducible refine (HP4.out _ (by repeat (first | (with_reducible exact ext_refl _) | (with_reducible assumption) | (with_reducible refine ext_drew ?_) | (with_reducible refine ext_drewN ?_ _) | (with_reducible refine ext_alloc ?_ _) | (with_reducible refine ext_set ?_ (by first | omega | (simp <;> omega)) _) | (with_reducible refine ext_trans ?_ (by with_reducible assumption))))).mono ?_); rintro e w5 ⟨v5, rfl, hv5, hx5⟩; obtain ⟨a5, n5, c5, rfl⟩ := hv5.slice; have HV5 := Lib.hid hv5; clear hv5; have hz5 := hx5.size; (try simp at hz5)))
          | (go_at_call 39; go_must ((with_reducible refine (HTK.out _ (by repeat (first | (with_reducible exact ext_refl _) | (with_reducible assumption) | (with_reducible refine ext_drew ?_) | (with_reducible refine ext_drewN ?_ _) | (with_reducible refine ext_alloc ?_ _) | (with_reducible refine ext_set ?_ (by first | omega | (simp <;> omega)) _) | (with_reducible refine ext_trans ?_ (by with_reducible assumption))))).mono ?_); rintro e w8 ⟨v8, rfl, hv8, hx8⟩; obtain ⟨a8, n8, c8, rfl⟩ := hv8.slice; obtain rfl : n8 = (takeA l ms).length := hv8.len.1; have HV8 := Lib.hid hv8; clear hv8; have hz8 := hx8.size; (try simp at hz8))))
        refine wp_name (fun wb ewb => ?_)
        have hwb : Ext w wb := by rw [ewb]; exact (by repeat (first | (with_reducible exact ext_refl _) | (with_reducible assumption) | (with_reducible refine ext_drew ?_) | (with_reducible refine ext_drewN ?_ _) | (with_reducible refine ext_alloc ?_ _) | (with_reducible refine ext_set ?_ (by first | omega | (simp <;> omega)) _) | (with_reducible refine ext_trans ?_ (by with_reducible assumption))))
        have HT := Lib.hid (show RSl RAt 3 (fun _ => True) wb (.slice a8 (takeA l ms).length c8) (takeA l ms) from RSl.more gAt (fun _ _ _ => trivial) (HV8.out.ext gAt (by rw [ewb]; exact (by repeat (first | (with_reducible exact ext_refl _) | (with_reducible assumption) | (with_reducible refine ext_drew ?_) | (with_reducible refine ext_drewN ?_ _) | (with_reducible refine ext_alloc ?_ _) | (with_reducible refine ext_set ?_ (by first | omega | (simp <;> omega)) _) | (with_reducible refine ext_trans ?_ (by with_reducible assumption)))))))
        clear ewb
        have HB := Lib.hid hwb
        clear hwb
        go_loopw [20] (fun iv wr => ∃ k : Nat, k ≤ l.length ∧ iv = .int .i64 k ∧ Ext wb wr) (fun iv _ => l.length - (intOf iv).toNat)
        case atStart => exact ⟨0, Nat.zero_le _, rfl, ext_refl _⟩
        case round =>
          obtain ⟨k, hk, rfl, hx⟩ := hrel
          have HX := Lib.hid hx
          clear hx
          by_cases hlt : k < l.length
          · obtain ⟨b, o, p, d, s, ap, cp, rfl, hb, ek, ick, hpp, y0, y1, y2⟩ := atm_at (HL.out wr (ext_trans HB.out HX.out)) hlt
            have HSM := Lib.hid (fun (W : World) (hx : Ext wr W) => hasMark_any (HT.out.ext gAt (ext_trans HX.out hx)) (rmk_of' (hpp.ext gStp hx) ick))
            have HSG := Lib.hid (fun (W : World) (hx : Ext wr W) => hasGone_any (HMS.out W (ext_trans (ext_trans HB.out HX.out) hx)) (rmk_of' (hpp.ext gStp hx) ick))
            rw [hasM_take (ms := ms) (List.mem_of_getElem? ek)] at HSM
            have kk0 : (0 : Int) ≤ (k : Int) := Int.natCast_nonneg k
            have kk1 : (k : Int) < (l.length : Int) := by exact_mod_cast hlt
            clear ek ick hpp y2
            simp only at HSM HSG
            generalize hasG ms (p, d) = gb at *
            cases gb
            all_goals
              go_wp2_with fail
              refine wp_name (fun W1 eW1 => ?_)
              have j0 : W1.cell? ⟨b, o + k * 3, none⟩ = some (.slice ap p.length cp) := by rw [eW1]; go_simp
              have j1 : W1.cell? ⟨b, o + k * 3 + 1, none⟩ = some (.int .i64 d) := by rw [eW1]; go_simp
              have zW1_0 : b < W1.heap.size := by rw [eW1]; first | assumption | omega | (simp <;> omega)
              have hw1 : Ext wr W1 := by rw [eW1]; exact (by repeat (first | (with_reducible exact ext_refl _) | (with_reducible assumption) | (with_reducible refine ext_drew ?_) | (with_reducible refine ext_drewN ?_ _) | (with_reducible refine ext_alloc ?_ _) | (with_reducible refine ext_set ?_ (by first | omega | (simp <;> omega)) _) | (with_reducible refine ext_trans ?_ (by with_reducible assumption))))
              clear eW1
              refine wp_region_later fol (by kernel_rfl) (fun hlater => ?_)
              repeat (go_big_quiet_step ((first
                  | (go_at_call 48; (with_reducible exact later_of (HSM.out _ (ext_trans hw1 (Later.ext _)))))
                  | (go_at_call 49; (with_reducible exact later_of (HSG.out _ (ext_trans hw1 (Later.ext _))))))))
              refine wpQuiet_nil ?_
              rintro w11 ⟨⟨w11x, hx11⟩, rfl⟩
              clear hlater
              go_wp2_with fail
              go_roundw
              case rel => exact ⟨k + 1, by omega, by go_num, ext_trans (ext_trans HX.out hw1) hx11⟩
              case measure => simp [intOf]; omega
          · obtain rfl : k = l.length := by omega
            go_wp2
            go_ret
            exact ⟨rb (decide_eq_true HTL.out), ext_trans HB.out HX.out⟩
    · have t2 : ((putE l m).2 == 0) = false := by simpa using h2
      clear h1 h2
      have HP3 := Lib.hid (fun (W : World) (hx : Ext w W) (G : Nat → Prop) (v : Value) (hv : RSl RAt 3 G W v (putE l m).1) => putAtoms_any hv (HN.out W hx))
      generalize putE (putE l m).1 n = lmn at *
      generalize putE l m = lm at *
      generalize putE m l = ml at *
      generalize putE m n = mn at *
      go_enter Try.func11, Try.ntmps11
      go_wp2_with (first
        | (go_at_call 44; go_must ((with_reducible refine (atomBegun_any _).mono ?_); rintro e w9 ⟨rfl, hx9⟩; have hz9 := hx9.size; (try simp at hz9)))
        | (go_at_call 38; (clear M1); go_must ((with_reducible refine (HP1.out _ (by repeat (first | (with_reducible exact ext_refl _) | (with_reducible assumption) | (with_reducible refine ext_drew ?_) | (with_reducible refine ext_drewN ?_ _) | (with_reducible refine ext_alloc ?_ _) | (with_reducible refine ext_set ?_ (by first | omega | (simp <;> omega)) _) | (with_reducible refine ext_trans ?_ (by with_reducible assumption))))).mono ?_); rintro e w1 ⟨v1, rfl, hv1, hx1⟩; obtain ⟨a1, n1, c1, rfl⟩ := hv1.slice; have HV1 := Lib.hid hv1; clear hv1; have hz1 := hx1.size; (try simp at hz1)))
        | (go_at_call 38; (clear M2); go_must ((with_reducible refine (HP2.out _ (by repeat (first | (with_reducible exact ext_refl _) | (with_reducible assumption) | (with_reducible refine ext_drew ?_) | (with_reducible refine ext_drewN ?_ _) | (with_reducible refine ext_alloc ?_ _) | (with_reducible refine ext_set ?_ (by first | omega | (simp <;> omega)) _) | (with_reducible refine ext_trans ?_ (by with_reducible assumption))))).mono ?_); rintro e w2 ⟨v2, rfl, hv2, hx2⟩; obtain ⟨a2, n2, c2, rfl⟩ := hv2.slice; have HV2 := Lib.hid hv2; clear hv2; have hz2 := hx2.size; (try simp at hz2)))
        | (go_at_call 38; (clear M3); go_must ((with_reducible refine (HP3.out _ (by repeat (first | (with_reducible exact ext_refl _) | (with_reducible assumption) | (with_reducible refine ext_drew ?_) | (with_reducible refine ext_drewN ?_ _) | (with_reducible refine ext_alloc ?_ _) | (with_reducible refine ext_set ?_ (by first | omega | (simp <;> omega)) _) | (with_reducible refine ext_trans ?_ (by with_reducible assumption)))) _ _ (HV1.out.ext gAt (by repeat (first | (with_reducible exact ext_refl _) | (with_reducible assumption) | (with_reducible refine ext_drew ?_) | (with_reducible refine ext_drewN ?_ _) | (with_reducible refine ext_alloc ?_ _) | (with_reducible refine ext_set ?_ (by first | omega | (simp <;> omega)) _) | (with_reducible refine ext_trans ?_ (by with_reducible assumption)))))).mono ?_); rintro e w4 ⟨v4, rfl, hv4, hx4⟩; obtain ⟨a4, n4, c4, rfl⟩ := hv4.slice; have HV4 := Lib.hid hv4; clear hv4; have hz4 := hx4.size; (try simp at hz4)))
        | (go_at_call 38; (clear M4); go_must ((with_reducible refine (HP4.out _ (by repeat (first | (with_reducible exact ext_refl _) | (with_reducible assumption) | (with_reducible refine ext_drew ?_) | (with_reducible refine ext_drewN ?_ _) | (with_reducible refine ext_alloc ?_ _) | (with_reducible refine ext_set ?_ (by first | omega | (simp <;> omega)) _) | (with_reducible refine ext_trans ?_ (by with_reducible assumption))))).mono ?_); rintro e w5 ⟨v5, rfl, hv5, hx5⟩; obtain ⟨a5, n5, c5, rfl⟩ := hv5.slice; have HV5 := Lib.hid hv5; clear hv5; have hz5 := hx5.size; (try simp at hz5)))
        | (go_at_call 39; go_must ((with_reducible refine (HTK.out _ (by repeat (first | (with_reducible exact ext_refl _) | (with_reducible assumption) | (with_reducible refine ext_drew ?_) | (with_reducible refine ext_drewN ?_ _) | (with_reducible refine ext_alloc ?_ _) | (with_reducible refine ext_set ?_ (by first | omega | (simp <;> omega)) _) | (with_reducible refine ext_trans ?_ (by with_reducible assumption))))).mono ?_); rintro e w8 ⟨v8, rfl, hv8, hx8⟩; obtain ⟨a8, n8, c8, rfl⟩ := hv8.slice; obtain rfl : n8 = (takeA l ms).length := hv8.len.1; have HV8 := Lib.hid hv8; clear hv8; have hz8 := hx8.size; (try simp at hz8))))
      refine wp_name (fun wb ewb => ?_)
      have hwb : Ext w wb := by rw [ewb]; exact (by repeat (first | (with_reducible exact ext_refl _) | (with_reducible assumption) | (with_reducible refine ext_drew ?_) | (with_reducible refine ext_drewN ?_ _) | (with_reducible refine ext_alloc ?_ _) | (with_reducible refine ext_set ?_ (by first | omega | (simp <;> omega)) _) | (with_reducible refine ext_trans ?_ (by with_reducible assumption))))
      have HT := Lib.hid (show RSl RAt 3 (fun _ => True) wb (.slice a8 (takeA l ms).length c8) (takeA l ms) from RSl.more gAt (fun _ _ _ => trivial) (HV8.out.ext gAt (by rw [ewb]; exact (by repeat (first | (with_reducible exact ext_refl _) | (with_reducible assumption) | (with_reducible refine ext_drew ?_) | (with_reducible refine ext_drewN ?_ _) | (with_reducible refine ext_alloc ?_ _) | (with_reducible refine ext_set ?_ (by first | omega | (simp <;> omega)) _) | (with_reducible refine ext_trans ?_ (by with_reducible assumption)))))))
      clear ewb
      have HB := Lib.hid hwb
      clear hwb
      go_loopw [20] (fun iv wr => ∃ k : Nat, k ≤ l.length ∧ iv = .int .i64 k ∧ Ext wb wr) (fun iv _ => l.length - (intOf iv).toNat)
      case atStart => exact ⟨0, Nat.zero_le _, rfl, ext_refl _⟩
      case round =>
        obtain ⟨k, hk, rfl, hx⟩ := hrel
        have HX := Lib.hid hx
        clear hx
        by_cases hlt : k < l.length
        · obtain ⟨b, o, p, d, s, ap, cp, rfl, hb, ek, ick, hpp, y0, y1, y2⟩ := atm_at (HL.out wr (ext_trans HB.out HX.out)) hlt
          have HSM := Lib.hid (fun (W : World) (hx : Ext wr W) => hasMark_any (HT.out.ext gAt (ext_trans HX.out hx)) (rmk_of' (hpp.ext gStp hx) ick))
          have HSG := Lib.hid (fun (W : World) (hx : Ext wr W) => hasGone_any (HMS.out W (ext_trans (ext_trans HB.out HX.out) hx)) (rmk_of' (hpp.ext gStp hx) ick))
          rw [hasM_take (ms := ms) (List.mem_of_getElem? ek)] at HSM
          have kk0 : (0 : Int) ≤ (k : Int) := Int.natCast_nonneg k
          have kk1 : (k : Int) < (l.length : Int) := by exact_mod_cast hlt
          clear ek ick hpp y2
          simp only at HSM HSG
          generalize hasG ms (p, d) = gb at *
          cases gb
          all_goals
            go_wp2_with fail
            refine wp_name (fun W1 eW1 => ?_)
            have j0 : W1.cell? ⟨b, o + k * 3, none⟩ = some (.slice ap p.length cp) := by rw [eW1]; go_simp
            have j1 : W1.cell? ⟨b, o + k * 3 + 1, none⟩ = some (.int .i64 d) := by rw [eW1]; go_simp
            have zW1_0 : b < W1.heap.size := by rw [eW1]; first | assumption | omega | (simp <;> omega)
            have hw1 : Ext wr W1 := by rw [eW1]; exact (by repeat (first | (with_reducible exact ext_refl _) | (with_reducible assumption) | (with_reducible refine ext_drew ?_) | (with_reducible refine ext_drewN ?_ _) | (with_reducible refine ext_alloc ?_ _) | (with_reducible refine ext_set ?_ (by first | omega | (simp <;> omega)) _) | (with_reducible refine ext_trans ?_ (by with_reducible assumption))))
            clear eW1
            refine wp_region_later fol (by kernel_rfl) (fun hlater => ?_)
            repeat (go_big_quiet_step ((first
                | (go_at_call 48; (with_reducible exact later_of (HSM.out _ (ext_trans hw1 (Later.ext _)))))
                | (go_at_call 49; (with_reducible exact later_of (HSG.out _ (ext_trans hw1 (Later.ext _))))))))
            refine wpQuiet_nil ?_
            rintro w11 ⟨⟨w11x, hx11⟩, rfl⟩
            clear hlater
            go_wp2_with fail
            go_roundw
            case rel => exact ⟨k + 1, by omega, by go_num, ext_trans (ext_trans HX.out hw1) hx11⟩
            case measure => simp [intOf]; omega
        · obtain rfl : k = l.length := by omega
          go_wp2
          go_ret
          exact ⟨rb (decide_eq_true HTL.out), ext_trans HB.out HX.out⟩
  · rw [takeE_bad h1] at HTK
    have h2 : ¬ (putE l m).2 = 0 := fun e => h1 (putE_0 e).1
    have t2 : ((putE l m).2 == 0) = false := by simpa using h2
    have t1 : (checkA l != 0) = true := by simpa using h1
    generalize checkA l = el at *
    clear h1 h2
    have HP3 := Lib.hid (fun (W : World) (hx : Ext w W) (G : Nat → Prop) (v : Value) (hv : RSl RAt 3 G W v (putE l m).1) => putAtoms_any hv (HN.out W hx))
    generalize putE (putE l m).1 n = lmn at *
    generalize putE l m = lm at *
    generalize putE m l = ml at *
    generalize putE m n = mn at *
    go_enter Try.func11, Try.ntmps11
    go_wp2_with (first
      | (go_at_call 44; go_must ((with_reducible refine (atomBegun_any _).mono ?_); rintro e w9 ⟨rfl, hx9⟩; have hz9 := hx9.size; (try simp at hz9)))
      | (go_at_call 38; (clear M1); go_must ((with_reducible refine (HP1.out _ (by repeat (first | (with_reducible exact ext_refl _) | (with_reducible assumption) | (with_reducible refine ext_drew ?_) | (with_reducible refine ext_drewN ?_ _) | (with_reducible refine ext_alloc ?_ _) | (with_reducible refine ext_set ?_ (by first | omega | (simp <;> omega)) _) | (with_reducible refine ext_trans ?_ (by with_reducible assumption))))).mono ?_); rintro e w1 ⟨v1, rfl, hv1, hx1⟩; obtain ⟨a1, n1, c1, rfl⟩ := hv1.slice; have HV1 := Lib.hid hv1; clear hv1; have hz1 := hx1.size; (try simp at hz1)))
      | (go_at_call 38; (clear M2); go_must ((with_reducible refine (HP2.out _ (by repeat (first | (with_reducible exact ext_refl _) | (with_reducible assumption) | (with_reducible refine ext_drew ?_) | (with_reducible refine ext_drewN ?_ _) | (with_reducible refine ext_alloc ?_ _) | (with_reducible refine ext_set ?_ (by first | omega | (simp <;> omega)) _) | (with_reducible refine ext_trans ?_ (by with_reducible assumption))))).mono ?_); rintro e w2 ⟨v2, rfl, hv2, hx2⟩; obtain ⟨a2, n2, c2, rfl⟩ := hv2.slice; have HV2 := Lib.hid hv2; clear hv2; have hz2 := hx2.size; (try simp at hz2)))
      | (go_at_call 38; (clear M3); go_must ((with_reducible refine (HP3.out _ (by repeat (first | (with_reducible exact ext_refl _) | (with_reducible assumption) | (with_reducible refine ext_drew ?_) | (with_reducible refine ext_drewN ?_ _) | (with_reducible refine ext_alloc ?_ _) | (with_reducible refine ext_set ?_ (by first | omega | (simp <;> omega)) _) | (with_reducible refine ext_trans ?_ (by with_reducible assumption)))) _ _ (HV1.out.ext gAt (by repeat (first | (with_reducible exact ext_refl _) | (with_reducible assumption) | (with_reducible refine ext_drew ?_) | (with_reducible refine ext_drewN ?_ _) | (with_reducible refine ext_alloc ?_ _) | (with_reducible refine ext_set ?_ (by first | omega | (simp <;> omega)) _) | (with_reducible refine ext_trans ?_ (by with_reducible assumption)))))).mono ?_); rintro e w4 ⟨v4, rfl, hv4, hx4⟩; obtain ⟨a4, n4, c4, rfl⟩ := hv4.slice; have HV4 := Lib.hid hv4; clear hv4; have hz4 := hx4.size; (try simp at hz4)))
      | (go_at_call 38; (clear M4); go_must ((with_reducible refine (HP4.out _ (by repeat (first | (with_reducible exact ext_refl _) | (with_reducible assumption) | (with_reducible refine ext_drew ?_) | (with_reducible refine ext_drewN ?_ _) | (with_reducible refine ext_alloc ?_ _) | (with_reducible refine ext_set ?_ (by first | omega | (simp <;> omega)) _) | (with_reducible refine ext_trans ?_ (by with_reducible assumption))))).mono ?_); rintro e w5 ⟨v5, rfl, hv5, hx5⟩; obtain ⟨a5, n5, c5, rfl⟩ := hv5.slice; have HV5 := Lib.hid hv5; clear hv5; have hz5 := hx5.size; (try simp at hz5)))
      | (go_at_call 39; go_must ((with_reducible refine (HTK.out _ (by repeat (first | (with_reducible exact ext_refl _) | (with_reducible assumption) | (with_reducible refine ext_drew ?_) | (with_reducible refine ext_drewN ?_ _) | (with_reducible refine ext_alloc ?_ _) | (with_reducible refine ext_set ?_ (by first | omega | (simp <;> omega)) _) | (with_reducible refine ext_trans ?_ (by with_reducible assumption))))).mono ?_); rintro e w8 ⟨v8, rfl, hv8, hx8⟩; obtain ⟨a8, n8, c8, rfl⟩ := hv8.slice; obtain rfl : n8 = 0 := hv8.len.1; have HV8 := Lib.hid hv8; clear hv8; have hz8 := hx8.size; (try simp at hz8))))
    go_ret
    exact ⟨rfl, (by repeat (first | (with_reducible exact ext_refl _) | (with_reducible assumption) | (with_reducible refine ext_drew ?_) | (with_reducible refine ext_drewN ?_ _) | (with_reducible refine ext_alloc ?_ _) | (with_reducible refine ext_set ?_ (by first | omega | (simp <;> omega)) _) | (with_reducible refine ext_trans ?_ (by with_reducible assumption))))⟩
end Go.Proofs.Ytghfmgndddjofaa
