/- MarkNext: the next one of the next one is as far behind as both: the walk. -/
import Derived.Test.YthkhkbjkbpgaoaaM2
set_option linter.unusedVariables false
set_option linter.unusedSimpArgs false
namespace Go.Proofs.Ythkhkbjkbpgaoaa
open Go Go.RowKit Go.BigFrame Cp

theorem next_order {m : Mk} {k : Int} (h : (nextM m k).2 = 0) : (ordM m (nextM m k).1 != -1) = false ∨ k = 0 := by
  obtain ⟨h1, h2, _, _⟩ := nextM_ok.1 h
  by_cases h0 : k = 0
  · exact .inr h0
  · left
    have := afterM_lt (m := m) (j := 0) (k := k) (checkM_ok.1 h1).2.1 (by omega)
    rw [afterM_zero] at this
    rw [nextM_val h, this]; rfl
theorem next_both {m : Mk} {j k : Int} (h : (nextM m j).2 = 0) (h2 : (nextM (nextM m j).1 k).2 = 0) (hk : j + k ≤ 60) : nextM m (j + k) = ((nextM (nextM m j).1 k).1, 0) := by
  rw [nextM_val h] at h2 ⊢
  rw [nextM_val h2, afterM_add]
  obtain ⟨a1, a2, _, _⟩ := nextM_ok.1 h
  obtain ⟨_, b2, _, b4⟩ := nextM_ok.1 h2
  rw [afterM_add] at b4
  have h3 : (nextM m (j + k)).2 = 0 := nextM_ok.2 ⟨a1, by omega, hk, b4⟩
  exact Prod.ext (nextM_val h3) h3

set_option maxRecDepth 100000 in
set_option maxHeartbeats 4000000 in
theorem markNext_any {F : Nat → Prop} {w : World} {cs : List Value} {a : Mk} {by_ more : Int} (ha : RMk F w cs a) (i1 : I64 by_) (i2 : I64 more) :
    Calls Try.prog 10 #[.agg cs.toArray, .int .i64 by_, .int .i64 more] w fun e w' => e = .returned (.bool true) ∧ Ext w w' := by
  have HA := Lib.hid (fun (W : World) (hx : Ext w W) => gMk.ext ha hx)
  obtain ⟨va, rfl, hl, _⟩ := ha
  obtain ⟨l, c⟩ := a
  simp only at hl HA ⊢
  obtain ⟨a1, n1, c1, rfl⟩ := hl.slice
  obtain ⟨rfl, _, _⟩ := hl.len
  unfold I64 at i1 i2
  obtain ⟨i1, i1'⟩ := i1
  obtain ⟨i2, i2'⟩ := i2
  clear hl
  have HN := Lib.hid (fun (W : World) (hx : Ext w W) => next_any (k := by_) (HA.out W hx))
  by_cases h0 : (nextM (l, c) by_).2 = 0
  · obtain ⟨hck, hb0, hb60, hck2⟩ := nextM_ok.1 h0
    have hord := next_order h0
    have hchk : checkM (nextM (l, c) by_).1 = 0 := by rw [nextM_val h0]; exact hck2
    have hz : by_ = 0 → ordM (l, c) (nextM (l, c) by_).1 = 0 := by intro h; rw [nextM_val h0, h, afterM_zero]; exact ordM_self _
    have hboth := fun k (h2 : (nextM (nextM (l, c) by_).1 k).2 = 0) (hk : by_ + k ≤ 60) => next_both h0 h2 hk
    rw [h0] at HN
    generalize (nextM (l, c) by_).1 = x at HN hord hchk hz hboth
    obtain ⟨p, q⟩ := x
    have HRX := Lib.hid (fun (W : World) (H : Nat → Prop) (ds : List Value) (hd : RMk H W ds (p, q)) => (show Calls Try.prog 33 #[.agg ds.toArray] W fun e w' => e = .returned (.int .i64 0) ∧ Ext W w' from hchk ▸ check_any hd))
    have HOR := Lib.hid (fun (W : World) (hx : Ext w W) (H : Nat → Prop) (ds : List Value) (hd : RMk H W ds (p, q)) => order_any (HA.out W hx) hd)
    have HN2 := Lib.hid (fun (W : World) (H : Nat → Prop) (ds : List Value) (hd : RMk H W ds (p, q)) => next_any (k := more) hd)
    have HN3 := Lib.hid (fun (W : World) (hx : Ext w W) => next_any (k := by_ + more) (HA.out W hx))
    have hmore : (nextM (p, q) more).2 = 0 → 0 ≤ more ∧ more ≤ 60 := fun h => ⟨(nextM_ok.1 h).2.1, (nextM_ok.1 h).2.2.1⟩
    have hb2 := hboth more
    clear hck2 h0 hck hchk hboth
    have HB2 := Lib.hid hb2
    clear hb2
    generalize nextM (p, q) more = y at HN2 hmore HB2
    obtain ⟨⟨p2, q2⟩, e2⟩ := y
    simp only at HN2 hmore HB2
    generalize ordM (l, c) (p, q) = od at HOR hord hz
    have HZ := Lib.hid hz
    clear hz
    rcases hord with hord | hord
    · by_cases hb : by_ = 0
      · have t3 : od = 0 := HZ.out hb
        subst t3
        subst hb
        exact absurd hord (by decide)
      · have t3 : (by_ == 0) = false := by simpa using hb
        clear hb HZ
        by_cases h2 : e2 = 0
        · have t2 : (e2 != 0) = false := by simpa using h2
          obtain ⟨j1, j2⟩ := hmore h2
          by_cases h3 : by_ + more ≤ 60
          · have hn := HB2.out h2 h3
            rw [hn] at HN3
            have HSO := Lib.hid (fun (W : World) (H K : Nat → Prop) (ds es : List Value) (hd : RMk H W ds (p2, q2)) (he : RMk K W es (p2, q2)) => (show Calls Try.prog 34 #[.agg ds.toArray, .agg es.toArray] W fun e w' => e = .returned (.int .i64 0) ∧ Ext W w' from ordM_self (p2, q2) ▸ order_any hd he))
            clear hn h2
            go_enter Try.func10, Try.ntmps10
            go_wp2_with (first
                | (go_at_call 32; go_must ((with_reducible refine (markBegun_any _).mono ?_); rintro e w1 ⟨rfl, hx1⟩; have hc1 := hx1.cells; have hz1 := hx1.size; (try simp at hz1); have hb1_0 : w.heap.size < w1.heap.size := (by omega)))
                | (go_at_call 30; ((with_reducible refine (HN.out _ (by repeat (first | (with_reducible exact ext_refl _) | (with_reducible assumption) | (with_reducible refine ext_drew ?_) | (with_reducible refine ext_drewN ?_ _) | (with_reducible refine ext_alloc ?_ _) | (with_reducible refine ext_set ?_ (by first | omega | (simp <;> omega)) _) | (with_reducible refine ext_trans ?_ (by with_reducible assumption))))).mono ?_); rintro e w2 ⟨cs2, rfl, hm2, hx2⟩; obtain ⟨v2, rfl, hv2, hi2⟩ := hm2; obtain ⟨a2', n2', c2', rfl⟩ := hv2.slice; obtain rfl : n2' = p.length := hv2.len.1; have HV2 := Lib.hid hv2; have HI2 := Lib.hid hi2; clear hv2 hi2; have hc2 := hx2.cells; have hz2 := hx2.size; (try simp at hz2); have hb2_0 : w.heap.size < w2.heap.size := (by omega)))
                | (go_at_call 33; go_must ((with_reducible refine (HRX.out _ _ [.slice a2' p.length c2', .int .i64 q] (rmk_of (HV2.out.ext gStp (by repeat (first | (with_reducible exact ext_refl _) | (with_reducible assumption) | (with_reducible refine ext_drew ?_) | (with_reducible refine ext_drewN ?_ _) | (with_reducible refine ext_alloc ?_ _) | (with_reducible refine ext_set ?_ (by first | omega | (simp <;> omega)) _) | (with_reducible refine ext_trans ?_ (by with_reducible assumption))))) HI2.out)).mono ?_); rintro e w3 ⟨rfl, hx3⟩; have hc3 := hx3.cells; have hz3 := hx3.size; (try simp at hz3); have hb3_0 : w.heap.size < w3.heap.size := (by omega); have hb3_1 : w2.heap.size < w3.heap.size := (by omega)))
                | (go_at_call 34; ((with_reducible refine (HOR.out _ (by repeat (first | (with_reducible exact ext_refl _) | (with_reducible assumption) | (with_reducible refine ext_drew ?_) | (with_reducible refine ext_drewN ?_ _) | (with_reducible refine ext_alloc ?_ _) | (with_reducible refine ext_set ?_ (by first | omega | (simp <;> omega)) _) | (with_reducible refine ext_trans ?_ (by with_reducible assumption)))) _ [.slice a2' p.length c2', .int .i64 q] (rmk_of (HV2.out.ext gStp (by repeat (first | (with_reducible exact ext_refl _) | (with_reducible assumption) | (with_reducible refine ext_drew ?_) | (with_reducible refine ext_drewN ?_ _) | (with_reducible refine ext_alloc ?_ _) | (with_reducible refine ext_set ?_ (by first | omega | (simp <;> omega)) _) | (with_reducible refine ext_trans ?_ (by with_reducible assumption))))) HI2.out)).mono ?_); rintro e w4 ⟨rfl, hx4⟩; have hc4 := hx4.cells; have hz4 := hx4.size; (try simp at hz4); have hb4_0 : w.heap.size < w4.heap.size := (by omega); have hb4_1 : w2.heap.size < w4.heap.size := (by omega)))
                | (go_at_call 30; ((with_reducible refine (HN2.out _ _ [.slice a2' p.length c2', .int .i64 q] (rmk_of (HV2.out.ext gStp (by repeat (first | (with_reducible exact ext_refl _) | (with_reducible assumption) | (with_reducible refine ext_drew ?_) | (with_reducible refine ext_drewN ?_ _) | (with_reducible refine ext_alloc ?_ _) | (with_reducible refine ext_set ?_ (by first | omega | (simp <;> omega)) _) | (with_reducible refine ext_trans ?_ (by with_reducible assumption))))) HI2.out)).mono ?_); rintro e w5 ⟨cs5, rfl, hm5, hx5⟩; obtain ⟨v5, rfl, hv5, hi5⟩ := hm5; obtain ⟨a5', n5', c5', rfl⟩ := hv5.slice; obtain rfl : n5' = p2.length := hv5.len.1; have HV5 := Lib.hid hv5; have HI5 := Lib.hid hi5; clear hv5 hi5; have hc5 := hx5.cells; have hz5 := hx5.size; (try simp at hz5); have hb5_0 : w.heap.size < w5.heap.size := (by omega); have hb5_1 : w2.heap.size < w5.heap.size := (by omega)))
                | (go_at_call 30; ((with_reducible refine (HN3.out _ (by repeat (first | (with_reducible exact ext_refl _) | (with_reducible assumption) | (with_reducible refine ext_drew ?_) | (with_reducible refine ext_drewN ?_ _) | (with_reducible refine ext_alloc ?_ _) | (with_reducible refine ext_set ?_ (by first | omega | (simp <;> omega)) _) | (with_reducible refine ext_trans ?_ (by with_reducible assumption))))).mono ?_); rintro e w6 ⟨cs6, rfl, hm6, hx6⟩; obtain ⟨v6, rfl, hv6, hi6⟩ := hm6; obtain ⟨a6', n6', c6', rfl⟩ := hv6.slice; obtain rfl : n6' = p2.length := hv6.len.1; have HV6 := Lib.hid hv6; have HI6 := Lib.hid hi6; clear hv6 hi6; have hc6 := hx6.cells; have hz6 := hx6.size; (try simp at hz6); have hb6_0 : w.heap.size < w6.heap.size := (by omega); have hb6_1 : w2.heap.size < w6.heap.size := (by omega); have hb6_2 : w5.heap.size < w6.heap.size := (by omega)))
                | (go_at_call 34; ((with_reducible refine (HSO.out _ _ _ [.slice a5' p2.length c5', .int .i64 q2] [.slice a6' p2.length c6', .int .i64 q2] (rmk_of (HV5.out.ext gStp (by repeat (first | (with_reducible exact ext_refl _) | (with_reducible assumption) | (with_reducible refine ext_drew ?_) | (with_reducible refine ext_drewN ?_ _) | (with_reducible refine ext_alloc ?_ _) | (with_reducible refine ext_set ?_ (by first | omega | (simp <;> omega)) _) | (with_reducible refine ext_trans ?_ (by with_reducible assumption))))) HI5.out) (rmk_of (HV6.out.ext gStp (by repeat (first | (with_reducible exact ext_refl _) | (with_reducible assumption) | (with_reducible refine ext_drew ?_) | (with_reducible refine ext_drewN ?_ _) | (with_reducible refine ext_alloc ?_ _) | (with_reducible refine ext_set ?_ (by first | omega | (simp <;> omega)) _) | (with_reducible refine ext_trans ?_ (by with_reducible assumption))))) HI6.out)).mono ?_); rintro e w7 ⟨rfl, hx7⟩; have hc7 := hx7.cells; have hz7 := hx7.size; (try simp at hz7))))
            go_ret
            exact ⟨rfl, (by repeat (first | (with_reducible exact ext_refl _) | (with_reducible assumption) | (with_reducible refine ext_drew ?_) | (with_reducible refine ext_drewN ?_ _) | (with_reducible refine ext_alloc ?_ _) | (with_reducible refine ext_set ?_ (by first | omega | (simp <;> omega)) _) | (with_reducible refine ext_trans ?_ (by with_reducible assumption))))⟩
          · clear h2
            go_enter Try.func10, Try.ntmps10
            go_wp2_with (first
                | (go_at_call 32; go_must ((with_reducible refine (markBegun_any _).mono ?_); rintro e w1 ⟨rfl, hx1⟩; have hc1 := hx1.cells; have hz1 := hx1.size; (try simp at hz1); have hb1_0 : w.heap.size < w1.heap.size := (by omega)))
                | (go_at_call 30; ((with_reducible refine (HN.out _ (by repeat (first | (with_reducible exact ext_refl _) | (with_reducible assumption) | (with_reducible refine ext_drew ?_) | (with_reducible refine ext_drewN ?_ _) | (with_reducible refine ext_alloc ?_ _) | (with_reducible refine ext_set ?_ (by first | omega | (simp <;> omega)) _) | (with_reducible refine ext_trans ?_ (by with_reducible assumption))))).mono ?_); rintro e w2 ⟨cs2, rfl, hm2, hx2⟩; obtain ⟨v2, rfl, hv2, hi2⟩ := hm2; obtain ⟨a2', n2', c2', rfl⟩ := hv2.slice; obtain rfl : n2' = p.length := hv2.len.1; have HV2 := Lib.hid hv2; have HI2 := Lib.hid hi2; clear hv2 hi2; have hc2 := hx2.cells; have hz2 := hx2.size; (try simp at hz2); have hb2_0 : w.heap.size < w2.heap.size := (by omega)))
                | (go_at_call 33; go_must ((with_reducible refine (HRX.out _ _ [.slice a2' p.length c2', .int .i64 q] (rmk_of (HV2.out.ext gStp (by repeat (first | (with_reducible exact ext_refl _) | (with_reducible assumption) | (with_reducible refine ext_drew ?_) | (with_reducible refine ext_drewN ?_ _) | (with_reducible refine ext_alloc ?_ _) | (with_reducible refine ext_set ?_ (by first | omega | (simp <;> omega)) _) | (with_reducible refine ext_trans ?_ (by with_reducible assumption))))) HI2.out)).mono ?_); rintro e w3 ⟨rfl, hx3⟩; have hc3 := hx3.cells; have hz3 := hx3.size; (try simp at hz3); have hb3_0 : w.heap.size < w3.heap.size := (by omega); have hb3_1 : w2.heap.size < w3.heap.size := (by omega)))
                | (go_at_call 34; ((with_reducible refine (HOR.out _ (by repeat (first | (with_reducible exact ext_refl _) | (with_reducible assumption) | (with_reducible refine ext_drew ?_) | (with_reducible refine ext_drewN ?_ _) | (with_reducible refine ext_alloc ?_ _) | (with_reducible refine ext_set ?_ (by first | omega | (simp <;> omega)) _) | (with_reducible refine ext_trans ?_ (by with_reducible assumption)))) _ [.slice a2' p.length c2', .int .i64 q] (rmk_of (HV2.out.ext gStp (by repeat (first | (with_reducible exact ext_refl _) | (with_reducible assumption) | (with_reducible refine ext_drew ?_) | (with_reducible refine ext_drewN ?_ _) | (with_reducible refine ext_alloc ?_ _) | (with_reducible refine ext_set ?_ (by first | omega | (simp <;> omega)) _) | (with_reducible refine ext_trans ?_ (by with_reducible assumption))))) HI2.out)).mono ?_); rintro e w4 ⟨rfl, hx4⟩; have hc4 := hx4.cells; have hz4 := hx4.size; (try simp at hz4); have hb4_0 : w.heap.size < w4.heap.size := (by omega); have hb4_1 : w2.heap.size < w4.heap.size := (by omega)))
                | (go_at_call 30; ((with_reducible refine (HN2.out _ _ [.slice a2' p.length c2', .int .i64 q] (rmk_of (HV2.out.ext gStp (by repeat (first | (with_reducible exact ext_refl _) | (with_reducible assumption) | (with_reducible refine ext_drew ?_) | (with_reducible refine ext_drewN ?_ _) | (with_reducible refine ext_alloc ?_ _) | (with_reducible refine ext_set ?_ (by first | omega | (simp <;> omega)) _) | (with_reducible refine ext_trans ?_ (by with_reducible assumption))))) HI2.out)).mono ?_); rintro e w5 ⟨cs5, rfl, hm5, hx5⟩; obtain ⟨v5, rfl, hv5, hi5⟩ := hm5; obtain ⟨a5', n5', c5', rfl⟩ := hv5.slice; obtain rfl : n5' = p2.length := hv5.len.1; have HV5 := Lib.hid hv5; have HI5 := Lib.hid hi5; clear hv5 hi5; have hc5 := hx5.cells; have hz5 := hx5.size; (try simp at hz5); have hb5_0 : w.heap.size < w5.heap.size := (by omega); have hb5_1 : w2.heap.size < w5.heap.size := (by omega))))
            go_ret
            exact ⟨rfl, (by repeat (first | (with_reducible exact ext_refl _) | (with_reducible assumption) | (with_reducible refine ext_drew ?_) | (with_reducible refine ext_drewN ?_ _) | (with_reducible refine ext_alloc ?_ _) | (with_reducible refine ext_set ?_ (by first | omega | (simp <;> omega)) _) | (with_reducible refine ext_trans ?_ (by with_reducible assumption))))⟩
        · have t2 : (e2 != 0) = true := by simpa using h2
          clear h2
          go_enter Try.func10, Try.ntmps10
          go_wp2_with (first
              | (go_at_call 32; go_must ((with_reducible refine (markBegun_any _).mono ?_); rintro e w1 ⟨rfl, hx1⟩; have hc1 := hx1.cells; have hz1 := hx1.size; (try simp at hz1); have hb1_0 : w.heap.size < w1.heap.size := (by omega)))
              | (go_at_call 30; ((with_reducible refine (HN.out _ (by repeat (first | (with_reducible exact ext_refl _) | (with_reducible assumption) | (with_reducible refine ext_drew ?_) | (with_reducible refine ext_drewN ?_ _) | (with_reducible refine ext_alloc ?_ _) | (with_reducible refine ext_set ?_ (by first | omega | (simp <;> omega)) _) | (with_reducible refine ext_trans ?_ (by with_reducible assumption))))).mono ?_); rintro e w2 ⟨cs2, rfl, hm2, hx2⟩; obtain ⟨v2, rfl, hv2, hi2⟩ := hm2; obtain ⟨a2', n2', c2', rfl⟩ := hv2.slice; obtain rfl : n2' = p.length := hv2.len.1; have HV2 := Lib.hid hv2; have HI2 := Lib.hid hi2; clear hv2 hi2; have hc2 := hx2.cells; have hz2 := hx2.size; (try simp at hz2); have hb2_0 : w.heap.size < w2.heap.size := (by omega)))
              | (go_at_call 33; go_must ((with_reducible refine (HRX.out _ _ [.slice a2' p.length c2', .int .i64 q] (rmk_of (HV2.out.ext gStp (by repeat (first | (with_reducible exact ext_refl _) | (with_reducible assumption) | (with_reducible refine ext_drew ?_) | (with_reducible refine ext_drewN ?_ _) | (with_reducible refine ext_alloc ?_ _) | (with_reducible refine ext_set ?_ (by first | omega | (simp <;> omega)) _) | (with_reducible refine ext_trans ?_ (by with_reducible assumption))))) HI2.out)).mono ?_); rintro e w3 ⟨rfl, hx3⟩; have hc3 := hx3.cells; have hz3 := hx3.size; (try simp at hz3); have hb3_0 : w.heap.size < w3.heap.size := (by omega); have hb3_1 : w2.heap.size < w3.heap.size := (by omega)))
              | (go_at_call 34; ((with_reducible refine (HOR.out _ (by repeat (first | (with_reducible exact ext_refl _) | (with_reducible assumption) | (with_reducible refine ext_drew ?_) | (with_reducible refine ext_drewN ?_ _) | (with_reducible refine ext_alloc ?_ _) | (with_reducible refine ext_set ?_ (by first | omega | (simp <;> omega)) _) | (with_reducible refine ext_trans ?_ (by with_reducible assumption)))) _ [.slice a2' p.length c2', .int .i64 q] (rmk_of (HV2.out.ext gStp (by repeat (first | (with_reducible exact ext_refl _) | (with_reducible assumption) | (with_reducible refine ext_drew ?_) | (with_reducible refine ext_drewN ?_ _) | (with_reducible refine ext_alloc ?_ _) | (with_reducible refine ext_set ?_ (by first | omega | (simp <;> omega)) _) | (with_reducible refine ext_trans ?_ (by with_reducible assumption))))) HI2.out)).mono ?_); rintro e w4 ⟨rfl, hx4⟩; have hc4 := hx4.cells; have hz4 := hx4.size; (try simp at hz4); have hb4_0 : w.heap.size < w4.heap.size := (by omega); have hb4_1 : w2.heap.size < w4.heap.size := (by omega)))
              | (go_at_call 30; ((with_reducible refine (HN2.out _ _ [.slice a2' p.length c2', .int .i64 q] (rmk_of (HV2.out.ext gStp (by repeat (first | (with_reducible exact ext_refl _) | (with_reducible assumption) | (with_reducible refine ext_drew ?_) | (with_reducible refine ext_drewN ?_ _) | (with_reducible refine ext_alloc ?_ _) | (with_reducible refine ext_set ?_ (by first | omega | (simp <;> omega)) _) | (with_reducible refine ext_trans ?_ (by with_reducible assumption))))) HI2.out)).mono ?_); rintro e w5 ⟨cs5, rfl, hm5, hx5⟩; obtain ⟨v5, rfl, hv5, hi5⟩ := hm5; obtain ⟨a5', n5', c5', rfl⟩ := hv5.slice; obtain rfl : n5' = p2.length := hv5.len.1; have HV5 := Lib.hid hv5; have HI5 := Lib.hid hi5; clear hv5 hi5; have hc5 := hx5.cells; have hz5 := hx5.size; (try simp at hz5); have hb5_0 : w.heap.size < w5.heap.size := (by omega); have hb5_1 : w2.heap.size < w5.heap.size := (by omega))))
          go_ret
          exact ⟨rfl, (by repeat (first | (with_reducible exact ext_refl _) | (with_reducible assumption) | (with_reducible refine ext_drew ?_) | (with_reducible refine ext_drewN ?_ _) | (with_reducible refine ext_alloc ?_ _) | (with_reducible refine ext_set ?_ (by first | omega | (simp <;> omega)) _) | (with_reducible refine ext_trans ?_ (by with_reducible assumption))))⟩
    · have t3 : od = 0 := HZ.out hord
      subst t3
      subst hord
      clear HZ
      simp only [Int.zero_add] at HN3 HB2
      by_cases h2 : e2 = 0
      · have t2 : (e2 != 0) = false := by simpa using h2
        obtain ⟨j1, j2⟩ := hmore h2
        have hn := HB2.out h2 j2
        rw [hn] at HN3
        have HSO := Lib.hid (fun (W : World) (H K : Nat → Prop) (ds es : List Value) (hd : RMk H W ds (p2, q2)) (he : RMk K W es (p2, q2)) => (show Calls Try.prog 34 #[.agg ds.toArray, .agg es.toArray] W fun e w' => e = .returned (.int .i64 0) ∧ Ext W w' from ordM_self (p2, q2) ▸ order_any hd he))
        clear hn h2
        go_enter Try.func10, Try.ntmps10
        go_wp2_with (first
            | (go_at_call 32; go_must ((with_reducible refine (markBegun_any _).mono ?_); rintro e w1 ⟨rfl, hx1⟩; have hc1 := hx1.cells; have hz1 := hx1.size; (try simp at hz1); have hb1_0 : w.heap.size < w1.heap.size := (by omega)))
            | (go_at_call 30; ((with_reducible refine (HN.out _ (by repeat (first | (with_reducible exact ext_refl _) | (with_reducible assumption) | (with_reducible refine ext_drew ?_) | (with_reducible refine ext_drewN ?_ _) | (with_reducible refine ext_alloc ?_ _) | (with_reducible refine ext_set ?_ (by first | omega | (simp <;> omega)) _) | (with_reducible refine ext_trans ?_ (by with_reducible assumption))))).mono ?_); rintro e w2 ⟨cs2, rfl, hm2, hx2⟩; obtain ⟨v2, rfl, hv2, hi2⟩ := hm2; obtain ⟨a2', n2', c2', rfl⟩ := hv2.slice; obtain rfl : n2' = p.length := hv2.len.1; have HV2 := Lib.hid hv2; have HI2 := Lib.hid hi2; clear hv2 hi2; have hc2 := hx2.cells; have hz2 := hx2.size; (try simp at hz2); have hb2_0 : w.heap.size < w2.heap.size := (by omega)))
            | (go_at_call 33; go_must ((with_reducible refine (HRX.out _ _ [.slice a2' p.length c2', .int .i64 q] (rmk_of (HV2.out.ext gStp (by repeat (first | (with_reducible exact ext_refl _) | (with_reducible assumption) | (with_reducible refine ext_drew ?_) | (with_reducible refine ext_drewN ?_ _) | (with_reducible refine ext_alloc ?_ _) | (with_reducible refine ext_set ?_ (by first | omega | (simp <;> omega)) _) | (with_reducible refine ext_trans ?_ (by with_reducible assumption))))) HI2.out)).mono ?_); rintro e w3 ⟨rfl, hx3⟩; have hc3 := hx3.cells; have hz3 := hx3.size; (try simp at hz3); have hb3_0 : w.heap.size < w3.heap.size := (by omega); have hb3_1 : w2.heap.size < w3.heap.size := (by omega)))
            | (go_at_call 34; ((with_reducible refine (HOR.out _ (by repeat (first | (with_reducible exact ext_refl _) | (with_reducible assumption) | (with_reducible refine ext_drew ?_) | (with_reducible refine ext_drewN ?_ _) | (with_reducible refine ext_alloc ?_ _) | (with_reducible refine ext_set ?_ (by first | omega | (simp <;> omega)) _) | (with_reducible refine ext_trans ?_ (by with_reducible assumption)))) _ [.slice a2' p.length c2', .int .i64 q] (rmk_of (HV2.out.ext gStp (by repeat (first | (with_reducible exact ext_refl _) | (with_reducible assumption) | (with_reducible refine ext_drew ?_) | (with_reducible refine ext_drewN ?_ _) | (with_reducible refine ext_alloc ?_ _) | (with_reducible refine ext_set ?_ (by first | omega | (simp <;> omega)) _) | (with_reducible refine ext_trans ?_ (by with_reducible assumption))))) HI2.out)).mono ?_); rintro e w4 ⟨rfl, hx4⟩; have hc4 := hx4.cells; have hz4 := hx4.size; (try simp at hz4); have hb4_0 : w.heap.size < w4.heap.size := (by omega); have hb4_1 : w2.heap.size < w4.heap.size := (by omega)))
            | (go_at_call 30; ((with_reducible refine (HN2.out _ _ [.slice a2' p.length c2', .int .i64 q] (rmk_of (HV2.out.ext gStp (by repeat (first | (with_reducible exact ext_refl _) | (with_reducible assumption) | (with_reducible refine ext_drew ?_) | (with_reducible refine ext_drewN ?_ _) | (with_reducible refine ext_alloc ?_ _) | (with_reducible refine ext_set ?_ (by first | omega | (simp <;> omega)) _) | (with_reducible refine ext_trans ?_ (by with_reducible assumption))))) HI2.out)).mono ?_); rintro e w5 ⟨cs5, rfl, hm5, hx5⟩; obtain ⟨v5, rfl, hv5, hi5⟩ := hm5; obtain ⟨a5', n5', c5', rfl⟩ := hv5.slice; obtain rfl : n5' = p2.length := hv5.len.1; have HV5 := Lib.hid hv5; have HI5 := Lib.hid hi5; clear hv5 hi5; have hc5 := hx5.cells; have hz5 := hx5.size; (try simp at hz5); have hb5_0 : w.heap.size < w5.heap.size := (by omega); have hb5_1 : w2.heap.size < w5.heap.size := (by omega)))
            | (go_at_call 30; ((with_reducible refine (HN3.out _ (by repeat (first | (with_reducible exact ext_refl _) | (with_reducible assumption) | (with_reducible refine ext_drew ?_) | (with_reducible refine ext_drewN ?_ _) | (with_reducible refine ext_alloc ?_ _) | (with_reducible refine ext_set ?_ (by first | omega | (simp <;> omega)) _) | (with_reducible refine ext_trans ?_ (by with_reducible assumption))))).mono ?_); rintro e w6 ⟨cs6, rfl, hm6, hx6⟩; obtain ⟨v6, rfl, hv6, hi6⟩ := hm6; obtain ⟨a6', n6', c6', rfl⟩ := hv6.slice; obtain rfl : n6' = p2.length := hv6.len.1; have HV6 := Lib.hid hv6; have HI6 := Lib.hid hi6; clear hv6 hi6; have hc6 := hx6.cells; have hz6 := hx6.size; (try simp at hz6); have hb6_0 : w.heap.size < w6.heap.size := (by omega); have hb6_1 : w2.heap.size < w6.heap.size := (by omega); have hb6_2 : w5.heap.size < w6.heap.size := (by omega)))
            | (go_at_call 34; ((with_reducible refine (HSO.out _ _ _ [.slice a5' p2.length c5', .int .i64 q2] [.slice a6' p2.length c6', .int .i64 q2] (rmk_of (HV5.out.ext gStp (by repeat (first | (with_reducible exact ext_refl _) | (with_reducible assumption) | (with_reducible refine ext_drew ?_) | (with_reducible refine ext_drewN ?_ _) | (with_reducible refine ext_alloc ?_ _) | (with_reducible refine ext_set ?_ (by first | omega | (simp <;> omega)) _) | (with_reducible refine ext_trans ?_ (by with_reducible assumption))))) HI5.out) (rmk_of (HV6.out.ext gStp (by repeat (first | (with_reducible exact ext_refl _) | (with_reducible assumption) | (with_reducible refine ext_drew ?_) | (with_reducible refine ext_drewN ?_ _) | (with_reducible refine ext_alloc ?_ _) | (with_reducible refine ext_set ?_ (by first | omega | (simp <;> omega)) _) | (with_reducible refine ext_trans ?_ (by with_reducible assumption))))) HI6.out)).mono ?_); rintro e w7 ⟨rfl, hx7⟩; have hc7 := hx7.cells; have hz7 := hx7.size; (try simp at hz7))))
        go_ret
        exact ⟨rfl, (by repeat (first | (with_reducible exact ext_refl _) | (with_reducible assumption) | (with_reducible refine ext_drew ?_) | (with_reducible refine ext_drewN ?_ _) | (with_reducible refine ext_alloc ?_ _) | (with_reducible refine ext_set ?_ (by first | omega | (simp <;> omega)) _) | (with_reducible refine ext_trans ?_ (by with_reducible assumption))))⟩
      · have t2 : (e2 != 0) = true := by simpa using h2
        clear h2
        go_enter Try.func10, Try.ntmps10
        go_wp2_with (first
            | (go_at_call 32; go_must ((with_reducible refine (markBegun_any _).mono ?_); rintro e w1 ⟨rfl, hx1⟩; have hc1 := hx1.cells; have hz1 := hx1.size; (try simp at hz1); have hb1_0 : w.heap.size < w1.heap.size := (by omega)))
            | (go_at_call 30; ((with_reducible refine (HN.out _ (by repeat (first | (with_reducible exact ext_refl _) | (with_reducible assumption) | (with_reducible refine ext_drew ?_) | (with_reducible refine ext_drewN ?_ _) | (with_reducible refine ext_alloc ?_ _) | (with_reducible refine ext_set ?_ (by first | omega | (simp <;> omega)) _) | (with_reducible refine ext_trans ?_ (by with_reducible assumption))))).mono ?_); rintro e w2 ⟨cs2, rfl, hm2, hx2⟩; obtain ⟨v2, rfl, hv2, hi2⟩ := hm2; obtain ⟨a2', n2', c2', rfl⟩ := hv2.slice; obtain rfl : n2' = p.length := hv2.len.1; have HV2 := Lib.hid hv2; have HI2 := Lib.hid hi2; clear hv2 hi2; have hc2 := hx2.cells; have hz2 := hx2.size; (try simp at hz2); have hb2_0 : w.heap.size < w2.heap.size := (by omega)))
            | (go_at_call 33; go_must ((with_reducible refine (HRX.out _ _ [.slice a2' p.length c2', .int .i64 q] (rmk_of (HV2.out.ext gStp (by repeat (first | (with_reducible exact ext_refl _) | (with_reducible assumption) | (with_reducible refine ext_drew ?_) | (with_reducible refine ext_drewN ?_ _) | (with_reducible refine ext_alloc ?_ _) | (with_reducible refine ext_set ?_ (by first | omega | (simp <;> omega)) _) | (with_reducible refine ext_trans ?_ (by with_reducible assumption))))) HI2.out)).mono ?_); rintro e w3 ⟨rfl, hx3⟩; have hc3 := hx3.cells; have hz3 := hx3.size; (try simp at hz3); have hb3_0 : w.heap.size < w3.heap.size := (by omega); have hb3_1 : w2.heap.size < w3.heap.size := (by omega)))
            | (go_at_call 34; ((with_reducible refine (HOR.out _ (by repeat (first | (with_reducible exact ext_refl _) | (with_reducible assumption) | (with_reducible refine ext_drew ?_) | (with_reducible refine ext_drewN ?_ _) | (with_reducible refine ext_alloc ?_ _) | (with_reducible refine ext_set ?_ (by first | omega | (simp <;> omega)) _) | (with_reducible refine ext_trans ?_ (by with_reducible assumption)))) _ [.slice a2' p.length c2', .int .i64 q] (rmk_of (HV2.out.ext gStp (by repeat (first | (with_reducible exact ext_refl _) | (with_reducible assumption) | (with_reducible refine ext_drew ?_) | (with_reducible refine ext_drewN ?_ _) | (with_reducible refine ext_alloc ?_ _) | (with_reducible refine ext_set ?_ (by first | omega | (simp <;> omega)) _) | (with_reducible refine ext_trans ?_ (by with_reducible assumption))))) HI2.out)).mono ?_); rintro e w4 ⟨rfl, hx4⟩; have hc4 := hx4.cells; have hz4 := hx4.size; (try simp at hz4); have hb4_0 : w.heap.size < w4.heap.size := (by omega); have hb4_1 : w2.heap.size < w4.heap.size := (by omega)))
            | (go_at_call 30; ((with_reducible refine (HN2.out _ _ [.slice a2' p.length c2', .int .i64 q] (rmk_of (HV2.out.ext gStp (by repeat (first | (with_reducible exact ext_refl _) | (with_reducible assumption) | (with_reducible refine ext_drew ?_) | (with_reducible refine ext_drewN ?_ _) | (with_reducible refine ext_alloc ?_ _) | (with_reducible refine ext_set ?_ (by first | omega | (simp <;> omega)) _) | (with_reducible refine ext_trans ?_ (by with_reducible assumption))))) HI2.out)).mono ?_); rintro e w5 ⟨cs5, rfl, hm5, hx5⟩; obtain ⟨v5, rfl, hv5, hi5⟩ := hm5; obtain ⟨a5', n5', c5', rfl⟩ := hv5.slice; obtain rfl : n5' = p2.length := hv5.len.1; have HV5 := Lib.hid hv5; have HI5 := Lib.hid hi5; clear hv5 hi5; have hc5 := hx5.cells; have hz5 := hx5.size; (try simp at hz5); have hb5_0 : w.heap.size < w5.heap.size := (by omega); have hb5_1 : w2.heap.size < w5.heap.size := (by omega))))
        go_ret
        exact ⟨rfl, (by repeat (first | (with_reducible exact ext_refl _) | (with_reducible assumption) | (with_reducible refine ext_drew ?_) | (with_reducible refine ext_drewN ?_ _) | (with_reducible refine ext_alloc ?_ _) | (with_reducible refine ext_set ?_ (by first | omega | (simp <;> omega)) _) | (with_reducible refine ext_trans ?_ (by with_reducible assumption))))⟩
  · have t1 : ((nextM (l, c) by_).2 != 0) = true := by simpa using h0
    have e1 := nextM_err h0
    rw [e1] at HN
    generalize (nextM (l, c) by_).2 = er at HN t1 h0
    clear h0 e1
    go_enter Try.func10, Try.ntmps10
    go_wp2_with (first
        | (go_at_call 32; go_must ((with_reducible refine (markBegun_any _).mono ?_); rintro e w1 ⟨rfl, hx1⟩; have hc1 := hx1.cells; have hz1 := hx1.size; (try simp at hz1); have hb1_0 : w.heap.size < w1.heap.size := (by omega)))
        | (go_at_call 30; go_must ((with_reducible refine (HN.out _ (by repeat (first | (with_reducible exact ext_refl _) | (with_reducible assumption) | (with_reducible refine ext_drew ?_) | (with_reducible refine ext_drewN ?_ _) | (with_reducible refine ext_alloc ?_ _) | (with_reducible refine ext_set ?_ (by first | omega | (simp <;> omega)) _) | (with_reducible refine ext_trans ?_ (by with_reducible assumption))))).mono ?_); rintro e w2 ⟨cs2, rfl, hm2, hx2⟩; obtain ⟨v2, rfl, hv2, hi2⟩ := hm2; obtain ⟨a2', n2', c2', rfl⟩ := hv2.slice; obtain rfl : n2' = 0 := hv2.len.1; have HV2 := Lib.hid hv2; have HI2 := Lib.hid hi2; clear hv2 hi2; have hc2 := hx2.cells; have hz2 := hx2.size; (try simp at hz2); have hb2_0 : w.heap.size < w2.heap.size := (by omega))))
    go_ret
    exact ⟨rfl, (by repeat (first | (with_reducible exact ext_refl _) | (with_reducible assumption) | (with_reducible refine ext_drew ?_) | (with_reducible refine ext_drewN ?_ _) | (with_reducible refine ext_alloc ?_ _) | (with_reducible refine ext_set ?_ (by first | omega | (simp <;> omega)) _) | (with_reducible refine ext_trans ?_ (by with_reducible assumption))))⟩
end Go.Proofs.Ythkhkbjkbpgaoaa
