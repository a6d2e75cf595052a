/- What is wrong with a note, by the document. -/
import Derived.Test.YtiladkinndgeaaaQa28958c9c8
import Derived.Test.YtiladkinndgeaaaQ6465d16c97
set_option linter.unusedVariables false
set_option linter.unusedSimpArgs false
namespace Go.Proofs.Ytiladkinndgeaaa
open Go Go.RowKit Go.BigFrame Cp

set_option maxRecDepth 100000 in
set_option maxHeartbeats 4000000 in
theorem checkNote_any {F : Nat → Prop} {w : World} {cs : List Value} {n : No} (h : RNo F w cs n) :
    Calls Try.prog 9 #[.agg cs.toArray] w fun e w' => e = .returned (.int .i64 (checkN n)) ∧ Ext w w' := by
  obtain ⟨v, u, rfl, hi, hj, hl, hd⟩ := h
  obtain ⟨st, nb, l, q⟩ := n
  simp only at hi hj hl hd ⊢
  have HL := Lib.hid (fun (W : World) (hx : Ext w W) => hl.ext gInt hx)
  have HD := Lib.hid (fun (W : World) (hx : Ext w W) => hd.ext gDe hx)
  obtain ⟨al, nl, cl, rfl⟩ := hl.slice
  obtain ⟨rfl, _, _⟩ := hl.len
  obtain ⟨ad, nd, cd, rfl⟩ := hd.slice
  obtain ⟨rfl, hn1, hn2⟩ := hd.len
  unfold maxLen at hn2
  have q1 : q.length ≤ 9223372036854775807 := by omega
  clear hl hd hn1 hn2 hi hj
  cases g1 : inB st 0 4 with
  | false =>
    rw [checkN_site g1]
    go_enter Try.func9, Try.ntmps9
    go_wp2_with (first
      | (go_at_call 30; (with_reducible refine (between_any _ _ _ _).mono ?_); rintro e w' ⟨rfl, rfl⟩))
    go_ret
    exact ⟨rfl, extA⟩
  | true =>
  cases g2 : inB nb 1 500 with
  | false =>
    rw [checkN_number g2]
    go_enter Try.func9, Try.ntmps9
    go_wp2_with (first
      | (go_at_call 30; (with_reducible refine (between_any _ _ _ _).mono ?_); rintro e w' ⟨rfl, rfl⟩))
    go_ret
    exact ⟨rfl, extA⟩
  | true =>
  by_cases g3 : l.length = 5
  · have t3 : ((l.length : Int) != 5) = false := by rw [g3]; rfl
    have HG3 := Lib.hid g3
    obtain ⟨j, rfl, hj⟩ := site_nat g1
    obtain ⟨b1, b2⟩ := num_rng g2
    have hjl : j < l.length := by omega
    obtain ⟨bn, on, x, rfl, hbn, ex, ix, y0⟩ := int_at (HL.out w (ext_refl _)) hjl
    have HEX := Lib.hid (show l[(j : Int).toNat]?.getD 0 = x by simp [ex])
    have hn1 : ¬ bn = w.heap.size := by omega
    have hn2 : ¬ w.heap.size = bn := by omega
    clear g3 ex
    go_enter Try.func9, Try.ntmps9
    go_wp2_with (go_at_call 30; (with_reducible refine (between_any _ _ _ _).mono ?_); rintro e w' ⟨rfl, rfl⟩)
    go_loopw [3] (fun i wr => ∃ k : Nat, k ≤ 5 ∧ i = .int .i64 k ∧ Hid ((l.take k).any badI = false) ∧ Ext (w.alloc (.cells #[.int .i64 (j : Nat), .int .i64 nb, .slice (some ⟨bn, on, none⟩) l.length cl, .slice ad q.length cd] 25)) wr) (fun i _ => 5 - (intOf i).toNat)
    case atStart => exact ⟨0, by omega, rfl, Lib.hid (by simp), ext_refl _⟩
    case round =>
      obtain ⟨k, hk, rfl, HI, hx⟩ := hrel
      have z0 : wr.cell? ⟨w.heap.size, 0, none⟩ = some (.int .i64 (j : Nat)) := (hx.cells _ _ (by simp <;> omega)).trans (by go_simp)
      have z1 : wr.cell? ⟨w.heap.size, 1, none⟩ = some (.int .i64 nb) := (hx.cells _ _ (by simp <;> omega)).trans (by go_simp)
      have z2 : wr.cell? ⟨w.heap.size, 2, none⟩ = some (.slice (some ⟨bn, on, none⟩) l.length cl) := (hx.cells _ _ (by simp <;> omega)).trans (by go_simp)
      have z3 : wr.cell? ⟨w.heap.size, 3, none⟩ = some (.slice ad q.length cd) := (hx.cells _ _ (by simp <;> omega)).trans (by go_simp)
      have z4 : wr.cell? ⟨bn, on + j, none⟩ = some (.int .i64 x) := (hx.cells _ _ (by simp <;> omega)).trans (by go_simp)
      have hzr := hx.size
      (try simp at hzr)
      have hbr : w.heap.size < wr.heap.size := by omega
      have hbn2 : bn < wr.heap.size := by omega
      have HX := Lib.hid (ext_trans (ext_alloc (ext_refl _) _) hx)
      have HXR := Lib.hid hx
      clear hx
      by_cases hlt : k < 5
      · have hkl : k < l.length := by have := HG3.out; omega
        obtain ⟨bn', on', x1, ea, _, e1, _, ca⟩ := int_at (HL.out wr HX.out) (i := k) hkl
        obtain ⟨rfl, rfl⟩ : bn = bn' ∧ on = on' := by injection ea with ea; injection ea with ea1 ea2; exact ⟨ea1, ea2⟩
        clear ea
        have HA := Lib.hid (anyp_step (p := badI) e1)
        clear e1
        cases g4 : inB x1 0 500 with
        | true =>
          have HN := Lib.hid (show (l.take (k + 1)).any badI = false by rw [HA.out, HI.out]; unfold badI; rw [g4]; rfl)
          go_wp2_with (go_at_call 30; (with_reducible refine (between_any _ _ _ _).mono ?_); rintro e w' ⟨rfl, rfl⟩)
          go_roundw
          case rel => exact ⟨k + 1, by omega, by go_num, HN, HXR.out⟩
          case measure => simp [intOf]; omega
        | false =>
          have HC := Lib.hid (checkN_needs (n := ⟨(j : Nat), nb, l, q⟩) g1 g2 HG3.out (anyp_of_take (k := k + 1) (by rw [HA.out, HI.out]; unfold badI; rw [g4]; rfl)))
          go_wp2_with (go_at_call 30; (with_reducible refine (between_any _ _ _ _).mono ?_); rintro e w' ⟨rfl, rfl⟩)
          go_ret
          exact ⟨ri HC.out.symm, HX.out⟩
      · have hk5 : k = l.length := by have := HG3.out; omega
        have hi := HI.out
        rw [hk5, List.take_of_length_le (Nat.le_refl _)] at hi
        have HR := Lib.hid (checkN_rest (n := ⟨(j : Nat), nb, l, q⟩) g1 g2 HG3.out hi)
        simp only at HR
        clear hi hk5 HI
        go_wp2_with fail
        by_cases g5 : x = nb - 1
        · have t5 : (x != nb - 1) = false := by rw [g5]; simp
          have H5 := Lib.hid g5
          clear g5
          refine wp_name (fun W2 eW2 => ?_)
          have e0 : W2.cell? ⟨w.heap.size, 0, none⟩ = some (.int .i64 (j : Nat)) := by rw [eW2]; go_simp
          have e1 : W2.cell? ⟨w.heap.size, 1, none⟩ = some (.int .i64 nb) := by rw [eW2]; go_simp
          have e2 : W2.cell? ⟨w.heap.size, 2, none⟩ = some (.slice (some ⟨bn, on, none⟩) l.length cl) := by rw [eW2]; go_simp
          have e3 : W2.cell? ⟨w.heap.size, 3, none⟩ = some (.slice ad q.length cd) := by rw [eW2]; go_simp
          have e4 : W2.cell? ⟨bn, on + j, none⟩ = some (.int .i64 x) := by rw [eW2]; go_simp
          have zW2_0 : w.heap.size < W2.heap.size := by rw [eW2]; first | assumption | omega | (simp <;> omega)
          have zW2_1 : bn < W2.heap.size := by rw [eW2]; first | assumption | omega | (simp <;> omega)
          have hw2 : Ext w W2 := by rw [eW2]; exact (ext_trans HX.out extA)
          clear eW2
          refine wp_region_later fol (by kernel_rfl) (fun hlater => ?_)
          repeat (go_big_quiet_step ((fail)))
          refine wpQuiet_nil ?_
          rintro w3 ⟨⟨w3x, hx3⟩, rfl⟩
          clear hlater
          have fz0 := (hx3.cells (w.heap.size) (0) (by omega)).trans e0
          have fz1 := (hx3.cells (w.heap.size) (1) (by omega)).trans e1
          have fz2 := (hx3.cells (w.heap.size) (2) (by omega)).trans e2
          have fz3 := (hx3.cells (w.heap.size) (3) (by omega)).trans e3
          have hz3 := hx3.size
          have hb3 : w.heap.size < w3.heap.size := by omega
          have hw3 : Ext w w3 := ext_trans hw2 hx3
          clear hx3 hw2 e0 e1 e2 e3 e4
          by_cases g6 : q.length = 0
          · have t6 : ((q.length : Int) == 0) = true := by rw [beq_iff_eq]; omega
            go_wp2_with fail
            go_ret
            exact ⟨ri (by rw [HR.out, if_neg (by rw [HEX.out, H5.out]; simp), if_pos g6]), hw3⟩
          have t6 : ((q.length : Int) == 0) = false := by rw [beq_eq_false_iff_ne]; omega
          by_cases g7 : 20 < q.length
          · go_wp2_with fail
            go_ret
            exact ⟨ri (by rw [HR.out, if_neg (by rw [HEX.out, H5.out]; simp), if_neg g6, if_pos g7]), hw3⟩
          have HI0 := Lib.hid (show checkN ⟨(j : Nat), nb, l, q⟩ = checkDL (q.drop 0) by rw [HR.out, if_neg (by rw [HEX.out, H5.out]; simp), if_neg g6, if_neg g7]; rfl)
          clear HR HEX H5 g6
          have HW3 := Lib.hid hw3
          clear hw3
          go_wp2_with fail
          go_loopw [4] (fun i wr => ∃ k : Nat, k ≤ q.length ∧ i = .int .i64 k ∧ Hid (checkN ⟨(j : Nat), nb, l, q⟩ = checkDL (q.drop k)) ∧ Ext w3 wr) (fun i _ => q.length - (intOf i).toNat)
          case atStart => exact ⟨0, Nat.zero_le _, rfl, HI0, ext_refl _⟩
          case round =>
            obtain ⟨k, hk, rfl, HI, hx⟩ := hrel
            have z0 := (hx.cells w.heap.size 0 hb3).trans fz0
            have z1 := (hx.cells w.heap.size 1 hb3).trans fz1
            have z2 := (hx.cells w.heap.size 2 hb3).trans fz2
            have z3 := (hx.cells w.heap.size 3 hb3).trans fz3
            have hzr := hx.size
            have hbr : w.heap.size < wr.heap.size := by omega
            have HX := Lib.hid (ext_trans HW3.out hx)
            have HXQ := Lib.hid hx
            clear hx
            by_cases hlt : k < q.length
            · obtain ⟨b, o, d, a1, n1, c1, a2, n2, c2, s, rfl, hb, ek, hdd, y0, y1, y2, y3, y4, y5, y6⟩ := deed_at (HD.out wr HX.out) hlt
              have HC := Lib.hid (fun (W : World) (hx : Ext wr W) => checkDeed_any (gDe.ext hdd hx))
              have hn3 : ¬ b = wr.heap.size := by omega
              have hn4 : ¬ wr.heap.size = b := by omega
              clear hdd
              by_cases g8 : checkD d = 0
              · have HN := Lib.hid (HI.out.trans (checkDL_next ek g8))
                rw [g8] at HC
                clear g8 ek
                go_wp2_with (go_at_call 31; go_must ((with_reducible refine (HC.out _ extA).mono ?_); rintro e w4 ⟨rfl, hx4⟩; have hz4 := hx4.size; (try simp at hz4); have hb4_0 : w.heap.size < w4.heap.size := (by omega); have v0 := (hx4.cells (w.heap.size) (3) (by first | omega | (simp <;> omega))).trans (show _ = some (.slice (some ⟨b, o, none⟩) q.length cd) by first | (with_reducible assumption) | go_simp)))
                go_roundw
                case rel => exact ⟨k + 1, by omega, by go_num, HN, ext_trans HXQ.out extA⟩
                case measure => simp [intOf]; omega
              · have HN := Lib.hid (HI.out.trans (checkDL_bad ek g8))
                have t8 : (checkD d != 0) = true := by simpa using g8
                generalize checkD d = cd' at *
                clear g8 ek
                go_wp2_with (go_at_call 31; go_must ((with_reducible refine (HC.out _ extA).mono ?_); rintro e w4 ⟨rfl, hx4⟩; have hz4 := hx4.size; (try simp at hz4); have hb4_0 : w.heap.size < w4.heap.size := (by omega); have v0 := (hx4.cells (w.heap.size) (3) (by first | omega | (simp <;> omega))).trans (show _ = some (.slice (some ⟨b, o, none⟩) q.length cd) by first | (with_reducible assumption) | go_simp)))
                go_ret
                exact ⟨ri HN.out.symm, ext_trans HX.out extA⟩
            · go_wp2_with fail
              go_ret
              exact ⟨ri (by rw [HI.out, checkDL_end (by omega)]), HX.out⟩
        · have t5 : (x != nb - 1) = true := by simpa using g5
          refine wp_name (fun W2 eW2 => ?_)
          have e0 : W2.cell? ⟨w.heap.size, 0, none⟩ = some (.int .i64 (j : Nat)) := by rw [eW2]; go_simp
          have e1 : W2.cell? ⟨w.heap.size, 1, none⟩ = some (.int .i64 nb) := by rw [eW2]; go_simp
          have e2 : W2.cell? ⟨w.heap.size, 2, none⟩ = some (.slice (some ⟨bn, on, none⟩) l.length cl) := by rw [eW2]; go_simp
          have e3 : W2.cell? ⟨w.heap.size, 3, none⟩ = some (.slice ad q.length cd) := by rw [eW2]; go_simp
          have e4 : W2.cell? ⟨bn, on + j, none⟩ = some (.int .i64 x) := by rw [eW2]; go_simp
          have zW2_0 : w.heap.size < W2.heap.size := by rw [eW2]; first | assumption | omega | (simp <;> omega)
          have zW2_1 : bn < W2.heap.size := by rw [eW2]; first | assumption | omega | (simp <;> omega)
          have hw2 : Ext w W2 := by rw [eW2]; exact (ext_trans HX.out extA)
          clear eW2
          refine wp_region_later fol (by kernel_rfl) (fun hlater => ?_)
          repeat (go_big_quiet_step ((fail)))
          refine wpQuiet_nil ?_
          rintro w3 ⟨⟨w3x, hx3⟩, rfl⟩
          clear hlater
          go_wp2_with fail
          go_ret
          exact ⟨ri (by rw [HR.out, if_pos (by rw [HEX.out]; exact g5)]), ext_trans hw2 hx3⟩
  · rw [checkN_len g1 g2 g3]
    have t3 : ((l.length : Int) != 5) = true := by rw [bne_iff_ne]; omega
    clear g3
    go_enter Try.func9, Try.ntmps9
    go_wp2_with (first
      | (go_at_call 30; (with_reducible refine (between_any _ _ _ _).mono ?_); rintro e w' ⟨rfl, rfl⟩))
    go_ret
    exact ⟨rfl, extA⟩
end Go.Proofs.Ytiladkinndgeaaa
/- What was seen: what is wrong with it; is one as much; both joined. -/
namespace Go.Proofs.Ytiladkinndgeaaa
open Go Go.RowKit Go.BigFrame Cp

end Go.Proofs.Ytiladkinndgeaaa
/- What was seen: both joined; the same numbers; may a note be done. -/
namespace Go.Proofs.Ytiladkinndgeaaa
open Go Go.RowKit Go.BigFrame Cp

theorem osl_ints {base : Nat} {F : Nat → Prop} {w : World} {v : Value} {l : List Int} (h : OSl RInt 1 3 base F w v l) : RSl RInt 1 (fun k => base ≤ k) w v l :=
  osl_rsl gInt (osl_any leaf_int (G := fun k => base ≤ k) h) (fun k hk _ => hk) (fun k hk => hk)
set_option maxRecDepth 100000 in
set_option maxHeartbeats 4000000 in
theorem sameInts_any {F G : Nat → Prop} {w : World} {v u : Value} {l m : List Int} (h : RSl RInt 1 F w v l) (k : RSl RInt 1 G w u m) :
    Calls Try.prog 44 #[v, u] w fun e w' => e = .returned (.bool (decide (l = m))) ∧ Ext w w' := by
  have HL := Lib.hid (fun (W : World) (hx : Ext w W) => h.ext gInt hx)
  have HM := Lib.hid (fun (W : World) (hx : Ext w W) => k.ext gInt hx)
  obtain ⟨a, n, c, rfl⟩ := h.slice
  obtain ⟨a2, n2, c2, rfl⟩ := k.slice
  obtain ⟨rfl, hn1, hn2⟩ := h.len
  obtain ⟨rfl, hn3, hn4⟩ := k.len
  unfold maxLen at hn2 hn4
  have q1 : l.length ≤ 9223372036854775807 := by omega
  have q2 : m.length ≤ 9223372036854775807 := by omega
  clear h k hn1 hn2 hn3 hn4
  by_cases h0 : l.length = m.length
  · have t0 : ((l.length : Int) != (m.length : Int)) = false := by rw [h0]; simp
    have H0 := Lib.hid h0
    clear h0
    go_enter Try.func44, Try.ntmps44
    go_wp2
    go_loopw [5] (fun i wr => ∃ q : Nat, q ≤ l.length ∧ i = .int .i64 q ∧ Hid (l.take q = m.take q) ∧ Ext w wr) (fun i _ => l.length - (intOf i).toNat)
    case atStart => exact ⟨0, Nat.zero_le _, rfl, Lib.hid (by simp), ext_refl _⟩
    case round =>
      obtain ⟨q, hq, rfl, HI, hx⟩ := hrel
      have HX := Lib.hid hx
      clear hx
      by_cases hlt : q < l.length
      · have hlm : q < m.length := by have := H0.out; omega
        obtain ⟨b, o, x, rfl, hb, e1, _, ca⟩ := int_at (HL.out wr HX.out) hlt
        obtain ⟨b2, o2, y, rfl, hb2, e2, _, ca2⟩ := int_at (HM.out wr HX.out) hlm
        by_cases g : x = y
        · have t1 : (x != y) = false := by rw [g]; simp
          have HN := Lib.hid (show l.take (q + 1) = m.take (q + 1) by
            rw [List.take_succ_eq_append_getElem hlt, List.take_succ_eq_append_getElem hlm, HI.out]
            rw [List.getElem?_eq_getElem hlt] at e1
            rw [List.getElem?_eq_getElem hlm] at e2
            rw [Option.some.inj e1, Option.some.inj e2, g])
          clear e1 e2 g
          go_wp2_with fail
          refine wp_name (fun W2 eW2 => ?_)
          have e0 : W2.cell? ⟨b, o + q, none⟩ = some (.int .i64 x) := by rw [eW2]; go_simp
          have e1 : W2.cell? ⟨b2, o2 + q, none⟩ = some (.int .i64 y) := by rw [eW2]; go_simp
          have zW2_0 : b < W2.heap.size := by rw [eW2]; first | assumption | omega | (simp <;> omega)
          have zW2_1 : b2 < W2.heap.size := by rw [eW2]; first | assumption | omega | (simp <;> omega)
          have hw2 : Ext wr W2 := by rw [eW2]; exact extA
          clear eW2
          refine wp_region_later fol (by kernel_rfl) (fun hlater => ?_)
          repeat (go_big_quiet_step ((fail)))
          refine wpQuiet_nil ?_
          rintro w3 ⟨⟨w3x, hx3⟩, rfl⟩
          clear hlater
          go_wp2_with fail
          go_roundw
          case rel => exact ⟨q + 1, by omega, by go_num, HN, ext_trans HX.out (ext_trans hw2 hx3)⟩
          case measure => simp [intOf]; omega
        · have t1 : (x != y) = true := by simpa using g
          have HC := Lib.hid (show decide (l = m) = false from decide_eq_false (fun e => by
            subst e
            rw [e1] at e2
            exact g (Option.some.inj e2)))
          clear e1 e2 g
          go_wp2_with fail
          refine wp_name (fun W2 eW2 => ?_)
          have e0 : W2.cell? ⟨b, o + q, none⟩ = some (.int .i64 x) := by rw [eW2]; go_simp
          have e1 : W2.cell? ⟨b2, o2 + q, none⟩ = some (.int .i64 y) := by rw [eW2]; go_simp
          have zW2_0 : b < W2.heap.size := by rw [eW2]; first | assumption | omega | (simp <;> omega)
          have zW2_1 : b2 < W2.heap.size := by rw [eW2]; first | assumption | omega | (simp <;> omega)
          have hw2 : Ext wr W2 := by rw [eW2]; exact extA
          clear eW2
          refine wp_region_later fol (by kernel_rfl) (fun hlater => ?_)
          repeat (go_big_quiet_step ((fail)))
          refine wpQuiet_nil ?_
          rintro w3 ⟨⟨w3x, hx3⟩, rfl⟩
          clear hlater
          go_wp2_with fail
          go_ret
          exact ⟨rb HC.out.symm, ext_trans HX.out (ext_trans hw2 hx3)⟩
      · have HC := Lib.hid (show decide (l = m) = true from decide_eq_true (by
          have h1 := HI.out
          rw [List.take_of_length_le (by omega), List.take_of_length_le (by have := H0.out; omega)] at h1
          exact h1))
        go_wp2
        go_ret
        exact ⟨rb HC.out.symm, HX.out⟩
  · have t0 : ((l.length : Int) != (m.length : Int)) = true := by rw [bne_iff_ne]; omega
    have HC := Lib.hid (show decide (l = m) = false from decide_eq_false (fun e => h0 (by rw [e])))
    clear h0
    go_enter Try.func44, Try.ntmps44
    go_wp2
    go_ret
    exact ⟨rb HC.out.symm, ext_refl _⟩

end Go.Proofs.Ytiladkinndgeaaa
