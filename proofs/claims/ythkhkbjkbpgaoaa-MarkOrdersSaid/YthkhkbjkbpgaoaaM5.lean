/- MarkOrders: order is one; marks that are made of one place by different sites differ: the walk. -/
import Derived.Test.YthkhkbjkbpgaoaaM2
set_option linter.unusedVariables false
set_option linter.unusedSimpArgs false
namespace Go.Proofs.Ythkhkbjkbpgaoaa
open Go Go.RowKit Go.BigFrame Cp

theorem ord_three (a b c : Mk) : (ordM a b ≤ 0 → ordM b c ≤ 0 → ordM a c ≤ 0) ∧ (ordM a b ≤ 0 → ordM b c < 0 → ordM a c < 0) ∧ (ordM a b < 0 → ordM b c ≤ 0 → ordM a c < 0) := by
  have h1 := ordM_range a b
  have h2 := ordM_range b c
  have t1 : ordM a b = -1 → ordM b c = -1 → ordM a c = -1 := fun h k => ordM_trans h k
  have t2 : ordM a b = 0 → ordM a c = ordM b c := fun h => by rw [ordM_zero.1 h]
  have t3 : ordM b c = 0 → ordM a c = ordM a b := fun h => by rw [ordM_zero.1 h]
  refine ⟨fun h k => ?_, fun h k => ?_, fun h k => ?_⟩
  all_goals
    rcases h1 with h1 | h1 | h1 <;> rcases h2 with h2 | h2 | h2 <;> first | omega | (have := t1 h1 h2; omega) | (have := t2 h1; omega) | (have := t3 h2; omega)
theorem lists_differ {a b : Mk} {site other clock many : Int} (h : betweenErr a b site clock many = 0) (k : betweenErr a b other clock many = 0) (hne : ¬ site = other) :
    ∀ (i j : Nat) (x y : Mk), (betweenL a b site clock many)[i]? = some x → (betweenL a b other clock many)[j]? = some y → (ordM x y == 0) = false := by
  intro i j x y hx hy
  have h1 := ((is_parts (between_is h)).2 i x hx).2.2.1
  have h2 := ((is_parts (between_is k)).2 j y hy).2.2.1
  rw [beq_eq_false_iff_ne]
  intro h0
  have := ordM_zero.1 h0
  subst this
  exact hne (h1.symm.trans h2)

set_option maxRecDepth 100000 in
set_option maxHeartbeats 4000000 in
theorem markOrders_any {F G H : Nat → Prop} {w : World} {cs ds es : List Value} {x y z : Mk} {site other clock many : Int} (hx : RMk F w cs x) (hy : RMk G w ds y) (hz : RMk H w es z) (hc : I64 clock) (hm : I64 many) :
    Calls Try.prog 9 #[.agg cs.toArray, .agg ds.toArray, .agg es.toArray, .int .i64 site, .int .i64 other, .int .i64 clock, .int .i64 many] w fun e w' => e = .returned (.bool true) ∧ Ext w w' := by
  have HX := Lib.hid (fun (W : World) (hw : Ext w W) => gMk.ext hx hw)
  have HY := Lib.hid (fun (W : World) (hw : Ext w W) => gMk.ext hy hw)
  have HZ := Lib.hid (fun (W : World) (hw : Ext w W) => gMk.ext hz hw)
  obtain ⟨va, rfl, hl, _⟩ := hx
  obtain ⟨vb, rfl, hmm, _⟩ := hy
  obtain ⟨vc, rfl, hr, _⟩ := hz
  obtain ⟨l, c⟩ := x
  obtain ⟨m, d⟩ := y
  obtain ⟨r, f⟩ := z
  simp only at hl hmm hr HX HY HZ ⊢
  obtain ⟨a1, n1, c1, rfl⟩ := hl.slice
  obtain ⟨a2, n2, c2, rfl⟩ := hmm.slice
  obtain ⟨a3, n3, c3, rfl⟩ := hr.slice
  obtain ⟨rfl, _, _⟩ := hl.len
  obtain ⟨rfl, _, _⟩ := hmm.len
  obtain ⟨rfl, _, _⟩ := hr.len
  have HF := Lib.hid (ord_three (l, c) (m, d) (r, f))
  have hr1 := ordM_range (l, c) (m, d)
  have hr2 := ordM_range (m, d) (r, f)
  have hr3 := ordM_range (l, c) (r, f)
  have HAB := Lib.hid (fun (W : World) (hw : Ext w W) => order_any (HX.out W hw) (HY.out W hw))
  have HBC := Lib.hid (fun (W : World) (hw : Ext w W) => order_any (HY.out W hw) (HZ.out W hw))
  have HAC := Lib.hid (fun (W : World) (hw : Ext w W) => order_any (HX.out W hw) (HZ.out W hw))
  have HBA := Lib.hid (fun (W : World) (hw : Ext w W) => (show Calls Try.prog 34 #[.agg #[.slice a2 m.length c2, .int .i64 d], .agg #[.slice a1 l.length c1, .int .i64 c]] W fun e w' => e = .returned (.int .i64 (-ordM (l, c) (m, d))) ∧ Ext W w' from ordM_anti (l, c) (m, d) ▸ order_any (HY.out W hw) (HX.out W hw)))
  generalize ordM (l, c) (m, d) = o1 at HF hr1 HAB HBA
  generalize ordM (m, d) (r, f) = o2 at HF hr2 HBC
  generalize ordM (l, c) (r, f) = o3 at HF hr3 HAC
  have HR1 := Lib.hid hr1
  have HR2 := Lib.hid hr2
  have HR3 := Lib.hid hr3
  clear hl hmm hr hr1 hr2 hr3
  have HM1 := Lib.hid (fun (W : World) (hw : Ext w W) => marks_any (site := site) (HX.out W hw) (HY.out W hw) hc hm)
  have HM2 := Lib.hid (fun (W : World) (hw : Ext w W) => marks_any (site := other) (HX.out W hw) (HY.out W hw) hc hm)
  have HD := Lib.hid (fun h k hne => lists_differ (a := (l, c)) (b := (m, d)) (site := site) (other := other) (clock := clock) (many := many) h k hne)
  clear hc hm
  generalize betweenErr (l, c) (m, d) site clock many = e1 at HM1 HD
  generalize betweenErr (l, c) (m, d) other clock many = e2 at HM2 HD
  generalize betweenL (l, c) (m, d) site clock many = q1 at HM1 HD
  generalize betweenL (l, c) (m, d) other clock many = q2 at HM2 HD
  go_enter Try.func9, Try.ntmps9
  go_wp2_with (first
      | (go_at_call 32; go_must ((with_reducible refine (markBegun_any _).mono ?_); rintro e w1 ⟨rfl, hx1⟩; have hc1 := hx1.cells; have hz1 := hx1.size; (try simp at hz1); have hb1_0 : w.heap.size < w1.heap.size := (by omega); have hb1_1 : w.heap.size + 1 < w1.heap.size := (by omega); have hb1_2 : w.heap.size + 1 + 1 < w1.heap.size := (by omega))))
  refine wp_name (fun w2 ew2 => ?_)
  have y0 : w2.cell? ⟨w.heap.size, 0, none⟩ = some (.slice a1 l.length c1) := by rw [ew2]; go_simp
  have y1 : w2.cell? ⟨w.heap.size, 1, none⟩ = some (.int .i64 c) := by rw [ew2]; go_simp
  have y2 : w2.cell? ⟨w.heap.size + 1, 0, none⟩ = some (.slice a2 m.length c2) := by rw [ew2]; go_simp
  have y3 : w2.cell? ⟨w.heap.size + 1, 1, none⟩ = some (.int .i64 d) := by rw [ew2]; go_simp
  have y4 : w2.cell? ⟨w.heap.size + 1 + 1, 0, none⟩ = some (.slice a3 r.length c3) := by rw [ew2]; go_simp
  have y5 : w2.cell? ⟨w.heap.size + 1 + 1, 1, none⟩ = some (.int .i64 f) := by rw [ew2]; go_simp
  have zw2_0 : w.heap.size < w2.heap.size := by rw [ew2]; first | assumption | omega | (simp <;> omega)
  have zw2_1 : w.heap.size + 1 < w2.heap.size := by rw [ew2]; first | assumption | omega | (simp <;> omega)
  have zw2_2 : w.heap.size + 1 + 1 < w2.heap.size := by rw [ew2]; first | assumption | omega | (simp <;> omega)
  have hw2 : Ext w w2 := by rw [ew2]; exact (by repeat (first | (with_reducible exact ext_refl _) | (with_reducible assumption) | (with_reducible refine ext_drew ?_) | (with_reducible refine ext_drewN ?_ _) | (with_reducible refine ext_alloc ?_ _) | (with_reducible refine ext_set ?_ (by first | omega | (simp <;> omega)) _) | (with_reducible refine ext_trans ?_ (by with_reducible assumption))))
  clear ew2
  refine wp_region_later fol (by kernel_rfl) (fun hlater => ?_)
  repeat (go_big_quiet_step ((first
      | (go_at_call 34; (with_reducible exact later_of (HAB.out _ (ext_trans hw2 (Later.ext _)))))
      | (go_at_call 34; (with_reducible exact later_of (HBC.out _ (ext_trans hw2 (Later.ext _)))))
      | (go_at_call 34; (with_reducible exact later_of (HAC.out _ (ext_trans hw2 (Later.ext _))))))))
  refine wpQuiet_nil ?_
  rintro w3 ⟨⟨w3x, hx3⟩, rfl⟩
  clear hlater
  have hw3 : Ext w w3 := ext_trans hw2 hx3
  have x0 := (hx3.cells (w.heap.size) 0 (by omega)).trans y0
  have x1 := (hx3.cells (w.heap.size) 1 (by omega)).trans y1
  have x2 := (hx3.cells (w.heap.size + 1) 0 (by omega)).trans y2
  have x3 := (hx3.cells (w.heap.size + 1) 1 (by omega)).trans y3
  have x4 := (hx3.cells (w.heap.size + 1 + 1) 0 (by omega)).trans y4
  have x5 := (hx3.cells (w.heap.size + 1 + 1) 1 (by omega)).trans y5
  have hz3 := hx3.size
  have zz0 : w.heap.size < w3.heap.size := by omega
  have zz1 : w.heap.size + 1 < w3.heap.size := by omega
  have zz2 : w.heap.size + 1 + 1 < w3.heap.size := by omega
  clear hx3 hw2 y0 y1 y2 y3 y4 y5 zw2_0 zw2_1 zw2_2
  have HW3 := Lib.hid hw3
  clear hw3 hz3
  go_upto_region 4 with fail
  go_cut [76] from 35 (fun s wc => s = .bool false ∧ Ext w3 wc)
  case first =>
    rcases HR1.out with rfl | rfl | rfl <;> rcases HR2.out with rfl | rfl | rfl <;> rcases HR3.out with rfl | rfl | rfl <;> first
      | (exfalso; have h := HF.out; omega)
      | (go_wp2_with (go_at_call 34; ((with_reducible refine (HBA.out _ HW3.out).mono ?_); rintro e w4 ⟨rfl, hx4⟩))
         go_meet
         exact ⟨rfl, hx4⟩)
  case rest =>
    obtain ⟨rfl, hx4⟩ := hcut
    obtain ⟨w4, rfl⟩ : ∃ w4 : World, w4 = wc := ⟨_, rfl⟩
    have hz4 := hx4.size
    have v0 := (hx4.cells (w.heap.size) 0 (by omega)).trans x0
    have v1 := (hx4.cells (w.heap.size) 1 (by omega)).trans x1
    have v2 := (hx4.cells (w.heap.size + 1) 0 (by omega)).trans x2
    have v3 := (hx4.cells (w.heap.size + 1) 1 (by omega)).trans x3
    have v4 := (hx4.cells (w.heap.size + 1 + 1) 0 (by omega)).trans x4
    have v5 := (hx4.cells (w.heap.size + 1 + 1) 1 (by omega)).trans x5
    have zy0 : w.heap.size < w4.heap.size := by omega
    have zy1 : w.heap.size + 1 < w4.heap.size := by omega
    have zy2 : w.heap.size + 1 + 1 < w4.heap.size := by omega
    have hw4 : Ext w w4 := ext_trans HW3.out hx4
    clear hx4 hz4 x0 x1 x2 x3 x4 x5 zz0 zz1 zz2
    by_cases h1 : e1 = 0
    · rw [if_pos h1] at HM1
      have t1 : (e1 != 0) = false := by simpa using h1
      by_cases h2 : e2 = 0
      · rw [if_pos h2] at HM2
        have t2 : (e2 != 0) = false := by simpa using h2
        by_cases h3 : site = other
        · have t3 : (site == other) = true := by simpa using h3
          have H3 := Lib.hid h3
          clear h1 h2 h3
          go_wp2_with (first
              | (go_at_call 36; ((with_reducible refine (HM1.out _ (by repeat (first | (with_reducible exact ext_refl _) | (with_reducible assumption) | (with_reducible refine ext_drew ?_) | (with_reducible refine ext_drewN ?_ _) | (with_reducible refine ext_alloc ?_ _) | (with_reducible refine ext_set ?_ (by first | omega | (simp <;> omega)) _) | (with_reducible refine ext_trans ?_ (by with_reducible assumption))))).mono ?_); rintro e w5 ⟨v5, rfl, hv5, hx5⟩; obtain ⟨a5', n5', c5', rfl⟩ := hv5.slice; obtain rfl : n5' = q1.length := hv5.len.1; have HV5 := Lib.hid hv5; clear hv5; have hc5 := hx5.cells; have hz5 := hx5.size; (try simp at hz5); have hb5_0 : w.heap.size < w5.heap.size := (by omega); have hb5_1 : w.heap.size + 1 < w5.heap.size := (by omega)))
              | (go_at_call 36; ((with_reducible refine (HM2.out _ (by repeat (first | (with_reducible exact ext_refl _) | (with_reducible assumption) | (with_reducible refine ext_drew ?_) | (with_reducible refine ext_drewN ?_ _) | (with_reducible refine ext_alloc ?_ _) | (with_reducible refine ext_set ?_ (by first | omega | (simp <;> omega)) _) | (with_reducible refine ext_trans ?_ (by with_reducible assumption))))).mono ?_); rintro e w6 ⟨v6, rfl, hv6, hx6⟩; obtain ⟨a6', n6', c6', rfl⟩ := hv6.slice; obtain rfl : n6' = q2.length := hv6.len.1; have HV6 := Lib.hid hv6; clear hv6; have hc6 := hx6.cells; have hz6 := hx6.size; (try simp at hz6); have hb6_0 : w.heap.size < w6.heap.size := (by omega); have hb6_1 : w.heap.size + 1 < w6.heap.size := (by omega))))
          go_ret
          exact ⟨rfl, (by repeat (first | (with_reducible exact ext_refl _) | (with_reducible assumption) | (with_reducible refine ext_drew ?_) | (with_reducible refine ext_drewN ?_ _) | (with_reducible refine ext_alloc ?_ _) | (with_reducible refine ext_set ?_ (by first | omega | (simp <;> omega)) _) | (with_reducible refine ext_trans ?_ (by with_reducible assumption))))⟩
        · have t3 : (site == other) = false := by simpa using h3
          have HDD := Lib.hid (HD.out h1 h2 h3)
          clear h1 h2 h3 HD
          go_wp2_with (first
              | (go_at_call 36; ((with_reducible refine (HM1.out _ (by repeat (first | (with_reducible exact ext_refl _) | (with_reducible assumption) | (with_reducible refine ext_drew ?_) | (with_reducible refine ext_drewN ?_ _) | (with_reducible refine ext_alloc ?_ _) | (with_reducible refine ext_set ?_ (by first | omega | (simp <;> omega)) _) | (with_reducible refine ext_trans ?_ (by with_reducible assumption))))).mono ?_); rintro e w5 ⟨v5, rfl, hv5, hx5⟩; obtain ⟨a5', n5', c5', rfl⟩ := hv5.slice; obtain rfl : n5' = q1.length := hv5.len.1; have HV5 := Lib.hid hv5; clear hv5; have hc5 := hx5.cells; have hz5 := hx5.size; (try simp at hz5); have hb5_0 : w.heap.size < w5.heap.size := (by omega); have hb5_1 : w.heap.size + 1 < w5.heap.size := (by omega)))
              | (go_at_call 36; ((with_reducible refine (HM2.out _ (by repeat (first | (with_reducible exact ext_refl _) | (with_reducible assumption) | (with_reducible refine ext_drew ?_) | (with_reducible refine ext_drewN ?_ _) | (with_reducible refine ext_alloc ?_ _) | (with_reducible refine ext_set ?_ (by first | omega | (simp <;> omega)) _) | (with_reducible refine ext_trans ?_ (by with_reducible assumption))))).mono ?_); rintro e w6 ⟨v6, rfl, hv6, hx6⟩; obtain ⟨a6', n6', c6', rfl⟩ := hv6.slice; obtain rfl : n6' = q2.length := hv6.len.1; have HV6 := Lib.hid hv6; clear hv6; have hc6 := hx6.cells; have hz6 := hx6.size; (try simp at hz6); have hb6_0 : w.heap.size < w6.heap.size := (by omega); have hb6_1 : w.heap.size + 1 < w6.heap.size := (by omega))))
          have hw6 : Ext w w6 := (by repeat (first | (with_reducible exact ext_refl _) | (with_reducible assumption) | (with_reducible refine ext_drew ?_) | (with_reducible refine ext_drewN ?_ _) | (with_reducible refine ext_alloc ?_ _) | (with_reducible refine ext_set ?_ (by first | omega | (simp <;> omega)) _) | (with_reducible refine ext_trans ?_ (by with_reducible assumption))))
          have HV5 := Lib.hid (HV5.out.ext gMk (show Ext w5 w6 from (by repeat (first | (with_reducible exact ext_refl _) | (with_reducible assumption) | (with_reducible refine ext_drew ?_) | (with_reducible refine ext_drewN ?_ _) | (with_reducible refine ext_alloc ?_ _) | (with_reducible refine ext_set ?_ (by first | omega | (simp <;> omega)) _) | (with_reducible refine ext_trans ?_ (by with_reducible assumption))))))
          have HW6 := Lib.hid hw6
          clear hw6 hw4
          go_loopw [22] (fun i wr => ∃ k : Nat, k ≤ q1.length ∧ i = .int .i64 k ∧ Ext w6 wr) (fun i _ => q1.length - (intOf i).toNat)
          case atStart => exact ⟨0, Nat.zero_le _, rfl, ext_refl _⟩
          case round =>
            obtain ⟨k, hk, rfl, hxr⟩ := hrel
            obtain ⟨wo, rfl⟩ : ∃ wo : World, wo = wr := ⟨_, rfl⟩
            have HXO := Lib.hid hxr
            clear hxr
            obtain ⟨_, hcap1, hcap2⟩ := HV5.out.len
            obtain ⟨_, hcap3, hcap4⟩ := HV6.out.len
            unfold maxLen at hcap2 hcap4
            by_cases hlt : k < q1.length
            · go_wp2_with fail
              go_loopw [23] (fun i wr => ∃ j : Nat, j ≤ q2.length ∧ i = .int .i64 j ∧ Ext wo wr) (fun i _ => q2.length - (intOf i).toNat)
              case atStart => exact ⟨0, Nat.zero_le _, rfl, ext_refl _⟩
              case round =>
                obtain ⟨j, hj, rfl, hxr⟩ := hrel
                have HXR := Lib.hid hxr
                clear hxr
                by_cases hlt2 : j < q2.length
                · obtain ⟨b5, o5, p5, k5, ap5, cp5, rfl, hb5, ek5, i5, hp5, u0, u1⟩ := mk_at (HV5.out.ext gMk (ext_trans HXO.out HXR.out)) hlt
                  obtain ⟨b6, o6, p6, k6, ap6, cp6, rfl, hb6, ek6, i6, hp6, u2, u3⟩ := mk_at (HV6.out.ext gMk (ext_trans HXO.out HXR.out)) hlt2
                  have t4 := HDD.out _ _ _ _ ek5 ek6
                  have HOX := Lib.hid (fun (W : World) (hw : Ext wr W) => order_any (w := W) (cs := [.slice ap5 p5.length cp5, .int .i64 k5]) (ds := [.slice ap6 p6.length cp6, .int .i64 k6]) (rmk_of (hp5.ext gStp hw) i5) (rmk_of (hp6.ext gStp hw) i6))
                  clear ek5 ek6 hp5 hp6
                  go_wp2_with fail
                  refine wp_region_later fol (by kernel_rfl) (fun hlater => ?_)
                  repeat (go_big_quiet_step ((first
                      | (go_at_call 34; (with_reducible exact later_of (HOX.out _ (Later.ext _)))))))
                  refine wpQuiet_nil ?_
                  rintro w7 ⟨⟨w7x, hx7⟩, rfl⟩
                  clear hlater
                  go_wp2_with fail
                  go_roundw
                  case rel => exact ⟨j + 1, by omega, by go_num, ext_trans HXR.out hx7⟩
                  case measure => simp [intOf]; omega
                · go_wp2_with fail
                  go_roundw
                  case rel => exact ⟨k + 1, by omega, by go_num, ext_trans HXO.out HXR.out⟩
                  case measure => simp [intOf]; omega
            · go_wp2_with fail
              go_ret
              exact ⟨rfl, ext_trans HW6.out HXO.out⟩
      · rw [if_neg h2] at HM2
        have t2 : (e2 != 0) = true := by simpa using h2
        clear h1 h2 HD
        go_wp2_with (first
            | (go_at_call 36; ((with_reducible refine (HM1.out _ (by repeat (first | (with_reducible exact ext_refl _) | (with_reducible assumption) | (with_reducible refine ext_drew ?_) | (with_reducible refine ext_drewN ?_ _) | (with_reducible refine ext_alloc ?_ _) | (with_reducible refine ext_set ?_ (by first | omega | (simp <;> omega)) _) | (with_reducible refine ext_trans ?_ (by with_reducible assumption))))).mono ?_); rintro e w5 ⟨v5, rfl, hv5, hx5⟩; obtain ⟨a5', n5', c5', rfl⟩ := hv5.slice; obtain rfl : n5' = q1.length := hv5.len.1; have HV5 := Lib.hid hv5; clear hv5; have hc5 := hx5.cells; have hz5 := hx5.size; (try simp at hz5); have hb5_0 : w.heap.size < w5.heap.size := (by omega); have hb5_1 : w.heap.size + 1 < w5.heap.size := (by omega)))
            | (go_at_call 36; ((with_reducible refine (HM2.out _ (by repeat (first | (with_reducible exact ext_refl _) | (with_reducible assumption) | (with_reducible refine ext_drew ?_) | (with_reducible refine ext_drewN ?_ _) | (with_reducible refine ext_alloc ?_ _) | (with_reducible refine ext_set ?_ (by first | omega | (simp <;> omega)) _) | (with_reducible refine ext_trans ?_ (by with_reducible assumption))))).mono ?_); rintro e w6 ⟨v6, rfl, hv6, hx6⟩; obtain ⟨a6', n6', c6', rfl⟩ := hv6.slice; obtain rfl : n6' = 0 := hv6.len.1; have HV6 := Lib.hid hv6; clear hv6; have hc6 := hx6.cells; have hz6 := hx6.size; (try simp at hz6); have hb6_0 : w.heap.size < w6.heap.size := (by omega); have hb6_1 : w.heap.size + 1 < w6.heap.size := (by omega))))
        go_ret
        exact ⟨rfl, (by repeat (first | (with_reducible exact ext_refl _) | (with_reducible assumption) | (with_reducible refine ext_drew ?_) | (with_reducible refine ext_drewN ?_ _) | (with_reducible refine ext_alloc ?_ _) | (with_reducible refine ext_set ?_ (by first | omega | (simp <;> omega)) _) | (with_reducible refine ext_trans ?_ (by with_reducible assumption))))⟩
    · rw [if_neg h1] at HM1
      have t1 : (e1 != 0) = true := by simpa using h1
      obtain ⟨n6, HN6⟩ : ∃ n : Nat, Hid (n = (if e2 = 0 then q2 else []).length) := ⟨_, rfl⟩
      generalize (if e2 = 0 then q2 else []) = qq at HM2 HN6
      clear h1 HD
      go_wp2_with (first
          | (go_at_call 36; ((with_reducible refine (HM1.out _ (by repeat (first | (with_reducible exact ext_refl _) | (with_reducible assumption) | (with_reducible refine ext_drew ?_) | (with_reducible refine ext_drewN ?_ _) | (with_reducible refine ext_alloc ?_ _) | (with_reducible refine ext_set ?_ (by first | omega | (simp <;> omega)) _) | (with_reducible refine ext_trans ?_ (by with_reducible assumption))))).mono ?_); rintro e w5 ⟨v5, rfl, hv5, hx5⟩; obtain ⟨a5', n5', c5', rfl⟩ := hv5.slice; obtain rfl : n5' = 0 := hv5.len.1; have HV5 := Lib.hid hv5; clear hv5; have hc5 := hx5.cells; have hz5 := hx5.size; (try simp at hz5); have hb5_0 : w.heap.size < w5.heap.size := (by omega); have hb5_1 : w.heap.size + 1 < w5.heap.size := (by omega)))
          | (go_at_call 36; ((with_reducible refine (HM2.out _ (by repeat (first | (with_reducible exact ext_refl _) | (with_reducible assumption) | (with_reducible refine ext_drew ?_) | (with_reducible refine ext_drewN ?_ _) | (with_reducible refine ext_alloc ?_ _) | (with_reducible refine ext_set ?_ (by first | omega | (simp <;> omega)) _) | (with_reducible refine ext_trans ?_ (by with_reducible assumption))))).mono ?_); rintro e w6 ⟨v6, rfl, hv6, hx6⟩; obtain ⟨a6', n6', c6', rfl⟩ := hv6.slice; obtain rfl : n6' = qq.length := hv6.len.1; have HV6 := Lib.hid hv6; clear hv6; have hc6 := hx6.cells; have hz6 := hx6.size; (try simp at hz6); have hb6_0 : w.heap.size < w6.heap.size := (by omega); have hb6_1 : w.heap.size + 1 < w6.heap.size := (by omega))))
      go_ret
      exact ⟨rfl, (by repeat (first | (with_reducible exact ext_refl _) | (with_reducible assumption) | (with_reducible refine ext_drew ?_) | (with_reducible refine ext_drewN ?_ _) | (with_reducible refine ext_alloc ?_ _) | (with_reducible refine ext_set ?_ (by first | omega | (simp <;> omega)) _) | (with_reducible refine ext_trans ?_ (by with_reducible assumption))))⟩
end Go.Proofs.Ythkhkbjkbpgaoaa
