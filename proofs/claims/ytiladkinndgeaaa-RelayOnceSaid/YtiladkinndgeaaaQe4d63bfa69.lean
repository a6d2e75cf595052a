/- What is wrong with a note, by the program. -/
import Derived.Test.YtiladkinndgeaaaQ7a04ac2d17
import Derived.Test.YtiladkinndgeaaaQ65e273ef9d
import Derived.Test.YtiladkinndgeaaaQf69f251b3b
import Derived.Deep.RegionLaw
set_option linter.unusedVariables false
set_option linter.unusedSimpArgs false
namespace Go.Proofs.Ytiladkinndgeaaa
open Go Go.RowKit Go.BigFrame Cp

set_option maxRecDepth 100000 in
set_option maxHeartbeats 4000000 in
theorem checkNoteP_any {F : Nat → Prop} {w : World} {cs : List Value} {n : No} (h : RNo F w cs n) :
    Calls Try.prog 13 #[.agg cs.toArray] w fun e w' => e = .returned (.int .i64 (checkN n)) ∧ Ext w w' := by
  obtain ⟨v, u, rfl, hi, hj, hl, hd⟩ := h
  obtain ⟨st, nb, l, q⟩ := n
  simp only at hi hj hl hd ⊢
  have HL := Lib.hid (fun (W : World) (hx : Ext w W) => hl.ext gInt hx)
  have HD := Lib.hid (fun (W : World) (hx : Ext w W) => hd.ext gDe hx)
  have HCI := Lib.hid (fun (W : World) (hx : Ext w W) => containsIntW_any (hl.ext gInt hx))
  obtain ⟨al, nl, cl, rfl⟩ := hl.slice
  obtain ⟨rfl, _, _⟩ := hl.len
  obtain ⟨ad, nd, cd, rfl⟩ := hd.slice
  obtain ⟨rfl, hn1, hn2⟩ := hd.len
  unfold maxLen at hn2
  have q1 : q.length ≤ 9223372036854775807 := by omega
  clear hl hd hn1 hn2 hi hj
  cases g1 : inB st 0 4 with
  | false =>
    rw [checkN_site g1]
    go_enter Try.func13, Try.ntmps13
    go_wp2_with (first
      | (go_at_call 39; (with_reducible refine (site_any _ _).mono ?_); rintro e w' ⟨rfl, rfl⟩)
      | (go_at_call 40; (with_reducible refine (withinW_any _ _ _ _).mono ?_); rintro e w' ⟨rfl, rfl⟩))
    go_ret
    exact ⟨rfl, extA⟩
  | true =>
  cases g2 : inB nb 1 500 with
  | false =>
    rw [checkN_number g2]
    go_enter Try.func13, Try.ntmps13
    go_wp2_with (first
      | (go_at_call 39; (with_reducible refine (site_any _ _).mono ?_); rintro e w' ⟨rfl, rfl⟩)
      | (go_at_call 40; (with_reducible refine (withinW_any _ _ _ _).mono ?_); rintro e w' ⟨rfl, rfl⟩))
    go_ret
    exact ⟨rfl, extA⟩
  | true =>
  by_cases g3 : l.length = 5
  · have t3 : ((l.length : Int) != 5) = false := by rw [g3]; rfl
    have HG3 := Lib.hid g3
    obtain ⟨j, rfl, hj⟩ := site_nat g1
    obtain ⟨b1, b2⟩ := num_rng g2
    have hjl : j < l.length := by omega
    obtain ⟨bn, on, x, rfl, hbn, ex, ix, y0⟩ := int_at (HL.out w (ext_refl _)) hjl
    have HEX := Lib.hid (show l[(j : Int).toNat]?.getD 0 = x by simp [ex])
    have hn1 : ¬ bn = w.heap.size := by omega
    have hn2 : ¬ w.heap.size = bn := by omega
    clear g3 ex
    cases g4 : l.any badI with
    | true =>
      rw [checkN_needs g1 g2 HG3.out g4]
      rw [g4] at HCI
      clear HD
      go_enter Try.func13, Try.ntmps13
      go_wp2_with (first
        | (go_at_call 39; (with_reducible refine (site_any _ _).mono ?_); rintro e w' ⟨rfl, rfl⟩)
        | (go_at_call 40; (with_reducible refine (withinW_any _ _ _ _).mono ?_); rintro e w' ⟨rfl, rfl⟩)
        | (go_at_call 41; go_must ((with_reducible refine (HCI.out _ extA).mono ?_); rintro e w1 ⟨rfl, hx1⟩; have hz1 := hx1.size; (try simp at hz1); have hb1_0 : w.heap.size < w1.heap.size := (by omega); have p0 := (hx1.cells (w.heap.size) (0) (by first | omega | (simp <;> omega))).trans (show _ = some (.int .i64 (j : Nat)) by first | (with_reducible assumption) | go_simp); have p1 := (hx1.cells (w.heap.size) (1) (by first | omega | (simp <;> omega))).trans (show _ = some (.int .i64 nb) by first | (with_reducible assumption) | go_simp); have p2 := (hx1.cells (w.heap.size) (2) (by first | omega | (simp <;> omega))).trans (show _ = some (.slice (some ⟨bn, on, none⟩) l.length cl) by first | (with_reducible assumption) | go_simp); have p3 := (hx1.cells (w.heap.size) (3) (by first | omega | (simp <;> omega))).trans (show _ = some (.slice ad q.length cd) by first | (with_reducible assumption) | go_simp))))
      go_ret
      exact ⟨rfl, extA⟩
    | false =>
      have HR := Lib.hid (checkN_rest (n := ⟨(j : Nat), nb, l, q⟩) g1 g2 HG3.out g4)
      simp only at HR
      rw [g4] at HCI
      go_enter Try.func13, Try.ntmps13
      go_wp2_with (first
        | (go_at_call 39; (with_reducible refine (site_any _ _).mono ?_); rintro e w' ⟨rfl, rfl⟩)
        | (go_at_call 40; (with_reducible refine (withinW_any _ _ _ _).mono ?_); rintro e w' ⟨rfl, rfl⟩)
        | (go_at_call 41; go_must ((with_reducible refine (HCI.out _ extA).mono ?_); rintro e w1 ⟨rfl, hx1⟩; have hz1 := hx1.size; (try simp at hz1); have hb1_0 : w.heap.size < w1.heap.size := (by omega); have p0 := (hx1.cells (w.heap.size) (0) (by first | omega | (simp <;> omega))).trans (show _ = some (.int .i64 (j : Nat)) by first | (with_reducible assumption) | go_simp); have p1 := (hx1.cells (w.heap.size) (1) (by first | omega | (simp <;> omega))).trans (show _ = some (.int .i64 nb) by first | (with_reducible assumption) | go_simp); have p2 := (hx1.cells (w.heap.size) (2) (by first | omega | (simp <;> omega))).trans (show _ = some (.slice (some ⟨bn, on, none⟩) l.length cl) by first | (with_reducible assumption) | go_simp); have p3 := (hx1.cells (w.heap.size) (3) (by first | omega | (simp <;> omega))).trans (show _ = some (.slice ad q.length cd) by first | (with_reducible assumption) | go_simp); have y5 := (hx1.cells bn (on + j) (by first | omega | (simp <;> omega))).trans (show _ = some (.int .i64 x) by first | (with_reducible assumption) | go_simp))))
      by_cases g5 : x = nb - 1
      · have t5 : (x != nb - 1) = false := by rw [g5]; simp
        have H5 := Lib.hid g5
        clear g5
        refine wp_name (fun W2 eW2 => ?_)
        have e0 : W2.cell? ⟨w.heap.size, 0, none⟩ = some (.int .i64 (j : Nat)) := by rw [eW2]; go_simp
        have e1 : W2.cell? ⟨w.heap.size, 1, none⟩ = some (.int .i64 nb) := by rw [eW2]; go_simp
        have e2 : W2.cell? ⟨w.heap.size, 2, none⟩ = some (.slice (some ⟨bn, on, none⟩) l.length cl) := by rw [eW2]; go_simp
        have e3 : W2.cell? ⟨w.heap.size, 3, none⟩ = some (.slice ad q.length cd) := by rw [eW2]; go_simp
        have e4 : W2.cell? ⟨bn, on + j, none⟩ = some (.int .i64 x) := by rw [eW2]; go_simp
        have zW2_0 : w.heap.size < W2.heap.size := by rw [eW2]; first | assumption | omega | (simp <;> omega)
        have zW2_1 : bn < W2.heap.size := by rw [eW2]; first | assumption | omega | (simp <;> omega)
        have hw2 : Ext w W2 := by rw [eW2]; exact extA
        clear eW2
        refine wp_region_later fol (by kernel_rfl) (fun hlater => ?_)
        repeat (go_big_quiet_step ((fail)))
        refine wpQuiet_nil ?_
        rintro w3 ⟨⟨w3x, hx3⟩, rfl⟩
        clear hlater
        have fz0 := (hx3.cells (w.heap.size) (0) (by omega)).trans e0
        have fz1 := (hx3.cells (w.heap.size) (1) (by omega)).trans e1
        have fz2 := (hx3.cells (w.heap.size) (2) (by omega)).trans e2
        have fz3 := (hx3.cells (w.heap.size) (3) (by omega)).trans e3
        have hz3 := hx3.size
        have hb3 : w.heap.size < w3.heap.size := by omega
        have hw3 : Ext w w3 := ext_trans hw2 hx3
        clear hx3 hw2 e0 e1 e2 e3 e4
        by_cases g6 : q.length = 0
        · have t6 : ((q.length : Int) == 0) = true := by rw [beq_iff_eq]; omega
          go_wp2_with fail
          go_ret
          exact ⟨ri (by rw [HR.out, if_neg (by rw [HEX.out, H5.out]; simp), if_pos g6]), hw3⟩
        have t6 : ((q.length : Int) == 0) = false := by rw [beq_eq_false_iff_ne]; omega
        by_cases g7 : 20 < q.length
        · go_wp2_with fail
          go_ret
          exact ⟨ri (by rw [HR.out, if_neg (by rw [HEX.out, H5.out]; simp), if_neg g6, if_pos g7]), hw3⟩
        have HI0 := Lib.hid (show checkN ⟨(j : Nat), nb, l, q⟩ = checkDL (q.drop 0) by rw [HR.out, if_neg (by rw [HEX.out, H5.out]; simp), if_neg g6, if_neg g7]; rfl)
        clear HR HEX H5 g6
        have HW3 := Lib.hid hw3
        clear hw3
        go_wp2_with fail
        go_loopw [50] (fun i wr => ∃ k : Nat, k ≤ q.length ∧ i = .int .i64 k ∧ Hid (checkN ⟨(j : Nat), nb, l, q⟩ = checkDL (q.drop k)) ∧ Ext w3 wr) (fun i _ => q.length - (intOf i).toNat)
        case atStart => exact ⟨0, Nat.zero_le _, rfl, HI0, ext_refl _⟩
        case round =>
          obtain ⟨k, hk, rfl, HI, hx⟩ := hrel
          have z0 := (hx.cells w.heap.size 0 hb3).trans fz0
          have z1 := (hx.cells w.heap.size 1 hb3).trans fz1
          have z2 := (hx.cells w.heap.size 2 hb3).trans fz2
          have z3 := (hx.cells w.heap.size 3 hb3).trans fz3
          have hzr := hx.size
          have hbr : w.heap.size < wr.heap.size := by omega
          have HX := Lib.hid (ext_trans HW3.out hx)
          have HXQ := Lib.hid hx
          clear hx
          by_cases hlt : k < q.length
          · obtain ⟨b, o, d, a1, n1, c1, a2, n2, c2, s, rfl, hb, ek, hdd, y0, y1, y2, y3, y4, y5, y6⟩ := deed_at (HD.out wr HX.out) hlt
            have HC := Lib.hid (fun (W : World) (hx : Ext wr W) => checkDeedP_any (gDe.ext hdd hx))
            have hn3 : ¬ b = wr.heap.size := by omega
            have hn4 : ¬ wr.heap.size = b := by omega
            clear hdd
            by_cases g8 : checkD d = 0
            · have HN := Lib.hid (HI.out.trans (checkDL_next ek g8))
              rw [g8] at HC
              clear g8 ek
              go_wp2_with (go_at_call 43; go_must ((with_reducible refine (HC.out _ extA).mono ?_); rintro e w4 ⟨rfl, hx4⟩; have hz4 := hx4.size; (try simp at hz4); have hb4_0 : w.heap.size < w4.heap.size := (by omega); have v0 := (hx4.cells (w.heap.size) (3) (by first | omega | (simp <;> omega))).trans (show _ = some (.slice (some ⟨b, o, none⟩) q.length cd) by first | (with_reducible assumption) | go_simp)))
              go_roundw
              case rel => exact ⟨k + 1, by omega, by go_num, HN, ext_trans HXQ.out extA⟩
              case measure => simp [intOf]; omega
            · have HN := Lib.hid (HI.out.trans (checkDL_bad ek g8))
              have t8 : (checkD d != 0) = true := by simpa using g8
              generalize checkD d = cd' at *
              clear g8 ek
              go_wp2_with (go_at_call 43; go_must ((with_reducible refine (HC.out _ extA).mono ?_); rintro e w4 ⟨rfl, hx4⟩; have hz4 := hx4.size; (try simp at hz4); have hb4_0 : w.heap.size < w4.heap.size := (by omega); have v0 := (hx4.cells (w.heap.size) (3) (by first | omega | (simp <;> omega))).trans (show _ = some (.slice (some ⟨b, o, none⟩) q.length cd) by first | (with_reducible assumption) | go_simp)))
              go_ret
              exact ⟨ri HN.out.symm, ext_trans HX.out extA⟩
          · go_wp2_with fail
            go_ret
            exact ⟨ri (by rw [HI.out, checkDL_end (by omega)]), HX.out⟩
      · have t5 : (x != nb - 1) = true := by simpa using g5
        refine wp_name (fun W2 eW2 => ?_)
        have e0 : W2.cell? ⟨w.heap.size, 0, none⟩ = some (.int .i64 (j : Nat)) := by rw [eW2]; go_simp
        have e1 : W2.cell? ⟨w.heap.size, 1, none⟩ = some (.int .i64 nb) := by rw [eW2]; go_simp
        have e2 : W2.cell? ⟨w.heap.size, 2, none⟩ = some (.slice (some ⟨bn, on, none⟩) l.length cl) := by rw [eW2]; go_simp
        have e3 : W2.cell? ⟨w.heap.size, 3, none⟩ = some (.slice ad q.length cd) := by rw [eW2]; go_simp
        have e4 : W2.cell? ⟨bn, on + j, none⟩ = some (.int .i64 x) := by rw [eW2]; go_simp
        have zW2_0 : w.heap.size < W2.heap.size := by rw [eW2]; first | assumption | omega | (simp <;> omega)
        have zW2_1 : bn < W2.heap.size := by rw [eW2]; first | assumption | omega | (simp <;> omega)
        have hw2 : Ext w W2 := by rw [eW2]; exact extA
        clear eW2
        refine wp_region_later fol (by kernel_rfl) (fun hlater => ?_)
        repeat (go_big_quiet_step ((fail)))
        refine wpQuiet_nil ?_
        rintro w3 ⟨⟨w3x, hx3⟩, rfl⟩
        clear hlater
        go_wp2_with fail
        go_ret
        exact ⟨ri (by rw [HR.out, if_pos (by rw [HEX.out]; exact g5)]), ext_trans hw2 hx3⟩
  · rw [checkN_len g1 g2 g3]
    have t3 : ((l.length : Int) != 5) = true := by rw [bne_iff_ne]; omega
    clear g3
    go_enter Try.func13, Try.ntmps13
    go_wp2_with (first
      | (go_at_call 39; (with_reducible refine (site_any _ _).mono ?_); rintro e w' ⟨rfl, rfl⟩)
      | (go_at_call 40; (with_reducible refine (withinW_any _ _ _ _).mono ?_); rintro e w' ⟨rfl, rfl⟩))
    go_ret
    exact ⟨rfl, extA⟩
end Go.Proofs.Ytiladkinndgeaaa
/- What is wrong with a note, by the document. -/
namespace Go.Proofs.Ytiladkinndgeaaa
open Go Go.RowKit Go.BigFrame Cp

end Go.Proofs.Ytiladkinndgeaaa
/- What was seen: what is wrong with it; is one as much; both joined. -/
namespace Go.Proofs.Ytiladkinndgeaaa
open Go Go.RowKit Go.BigFrame Cp

end Go.Proofs.Ytiladkinndgeaaa
/- What was seen: both joined; the same numbers; may a note be done. -/
namespace Go.Proofs.Ytiladkinndgeaaa
open Go Go.RowKit Go.BigFrame Cp

/-- numbers, all in new memory -/
def IsInts (l : List Int) (w : World) (e : Ending) (w' : World) : Prop := ∃ v, e = .returned v ∧ OSl RInt 1 3 w.heap.size (fun _ => True) w' v l ∧ Ext w w'
theorem osl_ints {base : Nat} {F : Nat → Prop} {w : World} {v : Value} {l : List Int} (h : OSl RInt 1 3 base F w v l) : RSl RInt 1 (fun k => base ≤ k) w v l :=
  osl_rsl gInt (osl_any leaf_int (G := fun k => base ≤ k) h) (fun k hk _ => hk) (fun k hk => hk)
set_option maxRecDepth 100000 in
set_option maxHeartbeats 4000000 in
theorem cloneInts_any {F : Nat → Prop} {w : World} {v : Value} {l : List Int} (h : RSl RInt 1 F w v l) (hsz : l.length ≤ 8000000000000) :
    Calls Try.prog 77 #[v] w (IsInts l w) := by
  obtain ⟨a1, n1, c1, rfl⟩ := h.slice
  obtain ⟨rfl, k1, k1'⟩ := h.len
  have hnil := fun (W : World) (a : Option Addr) (n c : Nat) => Lib.run_eql_slice_nil (P := Try.prog) W 22 3 a n c 0 0 Try.underlying22
  obtain ⟨i0, hi, hz0, hz1, hz2⟩ := info_parts info_int
  cases a1 with
  | none =>
    have e0 : l = [] := by
      cases l with
      | nil => rfl
      | cons a r => obtain ⟨b, o, x, cs, e, _⟩ := h.at_ (i := 0) (by simp); cases e
    subst e0
    go_enter Try.func77, Try.ntmps77
    go_wp2_with fail
    all_goals go_ret
    all_goals exact ⟨_, rfl, osl_nil, ext_refl _⟩
  | some ad =>
    have H := Lib.hid (h.more gInt (G := fun k => k < w.heap.size) (fun _ _ hk => hk))
    clear h k1 k1'
    go_enter Try.func77, Try.ntmps77
    go_wp2_with (at_builtin; refine wpList_appAll gInt rfl (.tmp 5) (.tmp 6) 22 rfl w.heap.size 3 i0 _ 1 8 Try.underlying22 hi hz0 hz1 hz2 rfl (by omega) (F := fun k => k < w.heap.size) (G := fun k => k < w.heap.size) _ [] rfl osl_new _ l rfl (H.out.ext gInt (ext_alloc (ext_refl _) _)) one_int (fun k hk _ => ⟨hk, ne_own hk⟩) (by simp only [maxLen, List.length_nil]; omega) (by simp only [List.length_nil]; omega) (by simp) ?_; intro v1 w1 hown1 hg1 hat1)
    go_ret
    exact ⟨_, rfl, osl_any leaf_int hown1, ext_grow (ext_alloc (ext_refl _) _) hg1 (fun k hk => Nat.le_of_eq (own_eq hk))⟩

set_option maxRecDepth 100000 in
set_option maxHeartbeats 4000000 in
theorem sameInts_any {F G : Nat → Prop} {w : World} {v u : Value} {l m : List Int} (h : RSl RInt 1 F w v l) (k : RSl RInt 1 G w u m) :
    Calls Try.prog 44 #[v, u] w fun e w' => e = .returned (.bool (decide (l = m))) ∧ Ext w w' := by
  have HL := Lib.hid (fun (W : World) (hx : Ext w W) => h.ext gInt hx)
  have HM := Lib.hid (fun (W : World) (hx : Ext w W) => k.ext gInt hx)
  obtain ⟨a, n, c, rfl⟩ := h.slice
  obtain ⟨a2, n2, c2, rfl⟩ := k.slice
  obtain ⟨rfl, hn1, hn2⟩ := h.len
  obtain ⟨rfl, hn3, hn4⟩ := k.len
  unfold maxLen at hn2 hn4
  have q1 : l.length ≤ 9223372036854775807 := by omega
  have q2 : m.length ≤ 9223372036854775807 := by omega
  clear h k hn1 hn2 hn3 hn4
  by_cases h0 : l.length = m.length
  · have t0 : ((l.length : Int) != (m.length : Int)) = false := by rw [h0]; simp
    have H0 := Lib.hid h0
    clear h0
    go_enter Try.func44, Try.ntmps44
    go_wp2
    go_loopw [5] (fun i wr => ∃ q : Nat, q ≤ l.length ∧ i = .int .i64 q ∧ Hid (l.take q = m.take q) ∧ Ext w wr) (fun i _ => l.length - (intOf i).toNat)
    case atStart => exact ⟨0, Nat.zero_le _, rfl, Lib.hid (by simp), ext_refl _⟩
    case round =>
      obtain ⟨q, hq, rfl, HI, hx⟩ := hrel
      have HX := Lib.hid hx
      clear hx
      by_cases hlt : q < l.length
      · have hlm : q < m.length := by have := H0.out; omega
        obtain ⟨b, o, x, rfl, hb, e1, _, ca⟩ := int_at (HL.out wr HX.out) hlt
        obtain ⟨b2, o2, y, rfl, hb2, e2, _, ca2⟩ := int_at (HM.out wr HX.out) hlm
        by_cases g : x = y
        · have t1 : (x != y) = false := by rw [g]; simp
          have HN := Lib.hid (show l.take (q + 1) = m.take (q + 1) by
            rw [List.take_succ_eq_append_getElem hlt, List.take_succ_eq_append_getElem hlm, HI.out]
            rw [List.getElem?_eq_getElem hlt] at e1
            rw [List.getElem?_eq_getElem hlm] at e2
            rw [Option.some.inj e1, Option.some.inj e2, g])
          clear e1 e2 g
          go_wp2_with fail
          refine wp_name (fun W2 eW2 => ?_)
          have e0 : W2.cell? ⟨b, o + q, none⟩ = some (.int .i64 x) := by rw [eW2]; go_simp
          have e1 : W2.cell? ⟨b2, o2 + q, none⟩ = some (.int .i64 y) := by rw [eW2]; go_simp
          have zW2_0 : b < W2.heap.size := by rw [eW2]; first | assumption | omega | (simp <;> omega)
          have zW2_1 : b2 < W2.heap.size := by rw [eW2]; first | assumption | omega | (simp <;> omega)
          have hw2 : Ext wr W2 := by rw [eW2]; exact extA
          clear eW2
          refine wp_region_later fol (by kernel_rfl) (fun hlater => ?_)
          repeat (go_big_quiet_step ((fail)))
          refine wpQuiet_nil ?_
          rintro w3 ⟨⟨w3x, hx3⟩, rfl⟩
          clear hlater
          go_wp2_with fail
          go_roundw
          case rel => exact ⟨q + 1, by omega, by go_num, HN, ext_trans HX.out (ext_trans hw2 hx3)⟩
          case measure => simp [intOf]; omega
        · have t1 : (x != y) = true := by simpa using g
          have HC := Lib.hid (show decide (l = m) = false from decide_eq_false (fun e => by
            subst e
            rw [e1] at e2
            exact g (Option.some.inj e2)))
          clear e1 e2 g
          go_wp2_with fail
          refine wp_name (fun W2 eW2 => ?_)
          have e0 : W2.cell? ⟨b, o + q, none⟩ = some (.int .i64 x) := by rw [eW2]; go_simp
          have e1 : W2.cell? ⟨b2, o2 + q, none⟩ = some (.int .i64 y) := by rw [eW2]; go_simp
          have zW2_0 : b < W2.heap.size := by rw [eW2]; first | assumption | omega | (simp <;> omega)
          have zW2_1 : b2 < W2.heap.size := by rw [eW2]; first | assumption | omega | (simp <;> omega)
          have hw2 : Ext wr W2 := by rw [eW2]; exact extA
          clear eW2
          refine wp_region_later fol (by kernel_rfl) (fun hlater => ?_)
          repeat (go_big_quiet_step ((fail)))
          refine wpQuiet_nil ?_
          rintro w3 ⟨⟨w3x, hx3⟩, rfl⟩
          clear hlater
          go_wp2_with fail
          go_ret
          exact ⟨rb HC.out.symm, ext_trans HX.out (ext_trans hw2 hx3)⟩
      · have HC := Lib.hid (show decide (l = m) = true from decide_eq_true (by
          have h1 := HI.out
          rw [List.take_of_length_le (by omega), List.take_of_length_le (by have := H0.out; omega)] at h1
          exact h1))
        go_wp2
        go_ret
        exact ⟨rb HC.out.symm, HX.out⟩
  · have t0 : ((l.length : Int) != (m.length : Int)) = true := by rw [bne_iff_ne]; omega
    have HC := Lib.hid (show decide (l = m) = false from decide_eq_false (fun e => h0 (by rw [e])))
    clear h0
    go_enter Try.func44, Try.ntmps44
    go_wp2
    go_ret
    exact ⟨rb HC.out.symm, ext_refl _⟩

end Go.Proofs.Ytiladkinndgeaaa
/- Relays, plain. -/
namespace Go.Proofs.Ytiladkinndgeaaa
open Go Cp

def howN (l : List No) (site : Int) : Nat := l.countP fun n => decide (n.site = site)
theorem howN_snoc (l : List No) (n : No) (site : Int) : howN (l ++ [n]) site = howN l site + if n.site = site then 1 else 0 := by
  unfold howN
  rw [List.countP_append, List.countP_singleton]
  simp
theorem howN_len (l : List No) (site : Int) : howN l site ≤ l.length := List.countP_le_length
theorem howN_take {l : List No} {k : Nat} {n : No} (h : l[k]? = some n) (site : Int) : howN (l.take (k + 1)) site = howN (l.take k) site + if n.site = site then 1 else 0 := by
  obtain ⟨h1, h2⟩ := List.getElem?_eq_some_iff.1 h
  rw [List.take_succ_eq_append_getElem h1, h2, howN_snoc]
/-- what is wrong with what comes behind notes that are right -/
def checkLF : List No → List No → Int
  | _, [] => 0
  | pre, n :: r => if checkN n ≠ 0 then checkN n else if n.number ≠ (howN pre n.site : Int) + 1 then 4 else checkLF (pre ++ [n]) r
def checkLog (l : List No) : Int := if 300 < l.length then 2 else checkLF [] l
theorem checkLF_step {l : List No} {k : Nat} {n : No} (h : l[k]? = some n) : checkLF (l.take k) (l.drop k) =
    if checkN n ≠ 0 then checkN n else if n.number ≠ (howN (l.take k) n.site : Int) + 1 then 4 else checkLF (l.take (k + 1)) (l.drop (k + 1)) := by
  obtain ⟨h1, h2⟩ := List.getElem?_eq_some_iff.1 h
  have e : l.drop k = n :: l.drop (k + 1) := by rw [← h2]; exact List.drop_eq_getElem_cons h1
  have e2 : l.take (k + 1) = l.take k ++ [n] := by rw [List.take_succ_eq_append_getElem h1, h2]
  rw [e, e2]
  rfl
theorem checkLF_end (l : List No) : checkLF (l.take l.length) (l.drop l.length) = 0 := by rw [List.drop_length]; rfl
theorem checkLF_ok : ∀ {m l : List No}, checkLF l m = 0 ↔ ∀ (i : Nat) (n : No), m[i]? = some n → checkN n = 0 ∧ n.number = (howN (l ++ m.take i) n.site : Int) + 1
  | [], l => ⟨fun _ i n h => by simp at h, fun _ => rfl⟩
  | x :: m, l => by
    have ih := checkLF_ok (m := m) (l := l ++ [x])
    show (if checkN x ≠ 0 then checkN x else if x.number ≠ (howN l x.site : Int) + 1 then 4 else checkLF (l ++ [x]) m) = 0 ↔ _
    constructor
    · intro h i n hi
      by_cases h1 : checkN x = 0
      · rw [if_neg (by simpa using h1)] at h
        by_cases h2 : x.number = (howN l x.site : Int) + 1
        · rw [if_neg (by simpa using h2)] at h
          cases i with
          | zero =>
            obtain rfl : x = n := by simpa using hi
            exact ⟨h1, by simpa using h2⟩
          | succ i =>
            have := ih.1 h i n (by simpa using hi)
            rw [List.take_succ_cons]
            rwa [List.append_assoc] at this
        · rw [if_pos h2] at h; cases h
      · rw [if_pos h1] at h; exact absurd h h1
    · intro h
      obtain ⟨h1, h2⟩ := h 0 x rfl
      rw [if_neg (by simpa using h1), if_neg (by simpa using h2)]
      refine ih.2 fun i n hi => ?_
      have := h (i + 1) n (by simpa using hi)
      rw [List.take_succ_cons] at this
      rwa [List.append_assoc]
theorem checkLog_ok {l : List No} : checkLog l = 0 ↔ l.length ≤ 300 ∧ ∀ (i : Nat) (n : No), l[i]? = some n → checkN n = 0 ∧ n.number = (howN (l.take i) n.site : Int) + 1 := by
  unfold checkLog
  by_cases h : 300 < l.length
  · rw [if_pos h]
    exact ⟨fun e => (by cases e), fun e => (by omega)⟩
  · rw [if_neg h, checkLF_ok]
    simp only [List.nil_append]
    exact ⟨fun e => ⟨by omega, e⟩, fun e => e.2⟩
/-- a note that is posted -/
def postE (l : List No) (n : No) : Int :=
  if checkLog l ≠ 0 then checkLog l else if checkN n ≠ 0 then checkN n else if (howN l n.site : Int) + 1 < n.number then 4
  else if n.number = (howN l n.site : Int) + 1 ∧ l.length = 300 then 2 else 0
def postB (l : List No) (n : No) : Bool := decide (postE l n = 0) && decide (n.number = (howN l n.site : Int) + 1)
def postV (l : List No) (n : No) : List No := if postE l n = 0 then (if n.number = (howN l n.site : Int) + 1 then l ++ [n] else l) else []
theorem post_right {l : List No} {n : No} (h : postE l n = 0) : checkLog l = 0 ∧ checkN n = 0 ∧ checkLog (postV l n) = 0 ∧ (postB l n = true → postV l n = l ++ [n]) ∧ (postB l n = false → postV l n = l) := by
  have h0 := h
  unfold postE at h0
  by_cases h1 : checkLog l = 0
  · rw [if_neg (by simpa using h1)] at h0
    by_cases h2 : checkN n = 0
    · rw [if_neg (by simpa using h2)] at h0
      by_cases h3 : (howN l n.site : Int) + 1 < n.number
      · rw [if_pos h3] at h0; cases h0
      · rw [if_neg h3] at h0
        by_cases h4 : n.number = (howN l n.site : Int) + 1 ∧ l.length = 300
        · rw [if_pos h4] at h0; cases h0
        · refine ⟨h1, h2, ?_, ?_, ?_⟩
          · unfold postV
            rw [if_pos h]
            split
            · rename_i h5
              obtain ⟨g1, g2⟩ := checkLog_ok.1 h1
              refine checkLog_ok.2 ⟨?_, ?_⟩
              · rw [List.length_append]
                have : ¬ l.length = 300 := fun e => h4 ⟨h5, e⟩
                simp
                omega
              · intro i x hi
                by_cases hlt : i < l.length
                · rw [List.getElem?_append_left hlt] at hi
                  have := g2 i x hi
                  rwa [List.take_append_of_le_length (by omega)]
                · have hil : i = l.length := by
                    have := (List.getElem?_eq_some_iff.1 hi).1
                    rw [List.length_append] at this
                    simp at this
                    omega
                  subst hil
                  rw [List.getElem?_append_right (Nat.le_refl _)] at hi
                  obtain rfl : n = x := by simpa using hi
                  rw [List.take_left]
                  exact ⟨h2, h5⟩
            · exact h1
          · intro hb
            unfold postB at hb
            rw [Bool.and_eq_true] at hb
            unfold postV
            rw [if_pos h, if_pos (of_decide_eq_true hb.2)]
          · intro hb
            unfold postB at hb
            rw [decide_eq_true h] at hb
            have : ¬ n.number = (howN l n.site : Int) + 1 := by simpa using hb
            unfold postV
            rw [if_pos h, if_neg this]
    · rw [if_pos h2] at h0; exact absurd h0 h2
  · rw [if_pos h1] at h0; exact absurd h0 h1
theorem post_err {l : List No} {n : No} (h : ¬ postE l n = 0) : postV l n = [] ∧ postB l n = false := by
  unfold postV postB
  rw [if_neg h, decide_eq_false h]
  exact ⟨rfl, rfl⟩
/-- notes that are pulled -/
def pullE (l : List No) (c m : Int) : Int := if checkLog l ≠ 0 then checkLog l else if inB c 0 l.length = false ∨ inB m 0 300 = false then 3 else 0
def pullV (l : List No) (c m : Int) : List No := if pullE l c m = 0 then (l.drop c.toNat).take m.toNat else []
theorem pull_right {l : List No} {c m : Int} (h : pullE l c m = 0) : checkLog l = 0 ∧ 0 ≤ c ∧ c ≤ l.length ∧ 0 ≤ m ∧ m ≤ 300 := by
  unfold pullE at h
  by_cases h1 : checkLog l = 0
  · rw [if_neg (by simpa using h1)] at h
    by_cases h2 : inB c 0 l.length = false ∨ inB m 0 300 = false
    · rw [if_pos h2] at h; cases h
    · rw [not_or] at h2
      obtain ⟨h2, h3⟩ := h2
      have h4 := (Bool.not_eq_false _).mp h2
      have h5 := (Bool.not_eq_false _).mp h3
      unfold inB at h4 h5
      simp at h4 h5
      exact ⟨h1, h4.1, h4.2, h5.1, h5.2⟩
  · rw [if_pos h1] at h; exact absurd h h1
end Go.Proofs.Ytiladkinndgeaaa
/- States of one's own: nothing of them is shared. -/
namespace Go.Proofs.Ytiladkinndgeaaa
open Go Go.RowKit Go.BigFrame Cp

end Go.Proofs.Ytiladkinndgeaaa
/- Does an atom go on a run. -/
namespace Go.Proofs.Ytiladkinndgeaaa
open Go Go.RowKit Go.BigFrame Cp

end Go.Proofs.Ytiladkinndgeaaa
/- Runs of atoms, by the program. -/
namespace Go.Proofs.Ytiladkinndgeaaa
open Go Go.RowKit Go.BigFrame Cp

end Go.Proofs.Ytiladkinndgeaaa
/- SameDeed, SameDeeds: of the same. -/
namespace Go.Proofs.Ytiladkinndgeaaa
open Go Go.RowKit Go.BigFrame Cp

set_option maxRecDepth 100000 in
set_option maxHeartbeats 4000000 in
theorem sameDeed_any {F G : Nat → Prop} {w : World} {cs ds : List Value} {d : De} (h : RDe F w cs d) (k : RDe G w ds d) :
    Calls Try.prog 64 #[.agg cs.toArray, .agg ds.toArray] w fun e w' => e = .returned (.bool true) ∧ Ext w w' := by
  obtain ⟨v, x, u, rfl, _, h1, h2, h3, h4, h5, _⟩ := h
  obtain ⟨v', x', u', rfl, _, k1, k2, k3, k4, k5, _⟩ := k
  obtain ⟨kd, ⟨⟨p, c⟩, t⟩, ⟨m, e⟩, mn⟩ := d
  simp only at h1 h2 h3 h4 h5 k1 k2 k3 k4 k5 ⊢
  obtain ⟨s, rfl, rfl, hs⟩ := tx_bytes h3
  obtain ⟨s2, rfl, e2, hs2⟩ := tx_bytes k3
  obtain rfl := bytes_eq e2
  have HS := Lib.hid (fun (W : World) (hx : Ext w W) => same_same (rmk_of' (h4.ext gStp hx) h5) (rmk_of' (k4.ext gStp hx) k5))
  have HR := Lib.hid (fun (W : World) (hx : Ext w W) => sameRun_any (rrn_of (h1.ext gStp hx) h2 (rtx_s hs)) (rrn_of (k1.ext gStp hx) k2 (rtx_s hs)))
  obtain ⟨a1, n1, c1, rfl⟩ := h1.slice
  obtain ⟨a2, n2, c2, rfl⟩ := h4.slice
  obtain ⟨a3, n3, c3, rfl⟩ := k1.slice
  obtain ⟨a4, n4, c4, rfl⟩ := k4.slice
  clear h1 h2 h3 h4 h5 k1 k2 k3 k4 k5 e2
  go_enter Try.func64, Try.ntmps64
  go_wp2_with (first | (go_at_call 75; go_must ((with_reducible refine (HS.out _ extA).mono ?_); rintro e w1 ⟨rfl, hx1⟩; have hs1 := hx1.size; (try simp at hs1); have p0 := (hx1.cells (w.heap.size) 0 (by first | omega | (simp <;> omega))).trans (show _ = some (.int .i64 kd) by first | (with_reducible assumption) | go_simp); have p1 := (hx1.cells (w.heap.size) 1 (by first | omega | (simp <;> omega))).trans (show _ = some (.slice a1 n1 c1) by first | (with_reducible assumption) | go_simp); have p2 := (hx1.cells (w.heap.size) 2 (by first | omega | (simp <;> omega))).trans (show _ = some (.int .i64 c) by first | (with_reducible assumption) | go_simp); have p3 := (hx1.cells (w.heap.size) 3 (by first | omega | (simp <;> omega))).trans (show _ = some (.string s) by first | (with_reducible assumption) | go_simp); have p4 := (hx1.cells (w.heap.size) 4 (by first | omega | (simp <;> omega))).trans (show _ = some (.slice a2 n2 c2) by first | (with_reducible assumption) | go_simp); have p5 := (hx1.cells (w.heap.size) 5 (by first | omega | (simp <;> omega))).trans (show _ = some (.int .i64 e) by first | (with_reducible assumption) | go_simp); have p6 := (hx1.cells (w.heap.size) 6 (by first | omega | (simp <;> omega))).trans (show _ = some (.int .i64 mn) by first | (with_reducible assumption) | go_simp); have p7 := (hx1.cells (w.heap.size + 1) 0 (by first | omega | (simp <;> omega))).trans (show _ = some (.int .i64 kd) by first | (with_reducible assumption) | go_simp); have p8 := (hx1.cells (w.heap.size + 1) 1 (by first | omega | (simp <;> omega))).trans (show _ = some (.slice a3 n3 c3) by first | (with_reducible assumption) | go_simp); have p9 := (hx1.cells (w.heap.size + 1) 2 (by first | omega | (simp <;> omega))).trans (show _ = some (.int .i64 c) by first | (with_reducible assumption) | go_simp); have p10 := (hx1.cells (w.heap.size + 1) 3 (by first | omega | (simp <;> omega))).trans (show _ = some (.string s) by first | (with_reducible assumption) | go_simp); have p11 := (hx1.cells (w.heap.size + 1) 4 (by first | omega | (simp <;> omega))).trans (show _ = some (.slice a4 n4 c4) by first | (with_reducible assumption) | go_simp); have p12 := (hx1.cells (w.heap.size + 1) 5 (by first | omega | (simp <;> omega))).trans (show _ = some (.int .i64 e) by first | (with_reducible assumption) | go_simp); have p13 := (hx1.cells (w.heap.size + 1) 6 (by first | omega | (simp <;> omega))).trans (show _ = some (.int .i64 mn) by first | (with_reducible assumption) | go_simp))) | (go_at_call 76; go_must ((with_reducible refine (HR.out _ extA).mono ?_); rintro e w2 ⟨rfl, hx2⟩; )))
  go_ret
  exact ⟨rfl, extA⟩
set_option maxRecDepth 100000 in
set_option maxHeartbeats 4000000 in
theorem sameDeeds_any {F G : Nat → Prop} {w : World} {v u : Value} {l : List De} (h : RSl RDe 7 F w v l) (k : RSl RDe 7 G w u l) :
    Calls Try.prog 45 #[v, u] w fun e w' => e = .returned (.bool true) ∧ Ext w w' := by
  have HL := Lib.hid (fun (W : World) (hx : Ext w W) => h.ext gDe hx)
  have HM := Lib.hid (fun (W : World) (hx : Ext w W) => k.ext gDe hx)
  obtain ⟨a, n, c, rfl⟩ := h.slice
  obtain ⟨a2, n2, c2, rfl⟩ := k.slice
  obtain ⟨rfl, hn1, hn2⟩ := h.len
  obtain ⟨rfl, _, _⟩ := k.len
  unfold maxLen at hn2
  have q1 : l.length ≤ 9223372036854775807 := by omega
  clear h k hn1 hn2
  go_enter Try.func45, Try.ntmps45
  go_wp2
  go_loopw [5] (fun i wr => ∃ q : Nat, q ≤ l.length ∧ i = .int .i64 q ∧ Ext w wr) (fun i _ => l.length - (intOf i).toNat)
  case atStart => exact ⟨0, Nat.zero_le _, rfl, ext_refl _⟩
  case round =>
    obtain ⟨q, hq, rfl, hx⟩ := hrel
    have HX := Lib.hid hx
    clear hx
    by_cases hlt : q < l.length
    · obtain ⟨b, o, d, b1, m1, e1, b2, m2, e2, s, rfl, hb, ek, hde, u0, u1, u2, u3, u4, u5, u6⟩ := deed_at (HL.out wr HX.out) hlt
      obtain ⟨b', o', d', b1', m1', e1', b2', m2', e2', s', rfl, hb', ek', hde', v0, v1, v2, v3, v4, v5, v6⟩ := deed_at (HM.out wr HX.out) hlt
      obtain rfl : d = d' := by rw [ek] at ek'; exact Option.some.inj ek'
      have HSM := Lib.hid (fun (W : World) (hx : Ext wr W) => sameDeed_any (gDe.ext hde hx) (gDe.ext hde' hx))
      generalize d.kind = dk at *
      generalize d.run.1.2 = rc at *
      generalize d.mark.2 = mc at *
      generalize d.many = dn at *
      clear ek ek' hde hde'
      go_wp2_with fail
      refine wp_name (fun W2 eW2 => ?_)
      have f0 : W2.cell? ⟨b, o + q * 7, none⟩ = some (.int .i64 dk) := by rw [eW2]; go_simp
      have f1 : W2.cell? ⟨b, o + q * 7 + 1, none⟩ = some (.slice b1 m1 e1) := by rw [eW2]; go_simp
      have f2 : W2.cell? ⟨b, o + q * 7 + 2, none⟩ = some (.int .i64 rc) := by rw [eW2]; go_simp
      have f3 : W2.cell? ⟨b, o + q * 7 + 3, none⟩ = some (.string s) := by rw [eW2]; go_simp
      have f4 : W2.cell? ⟨b, o + q * 7 + 4, none⟩ = some (.slice b2 m2 e2) := by rw [eW2]; go_simp
      have f5 : W2.cell? ⟨b, o + q * 7 + 5, none⟩ = some (.int .i64 mc) := by rw [eW2]; go_simp
      have f6 : W2.cell? ⟨b, o + q * 7 + 6, none⟩ = some (.int .i64 dn) := by rw [eW2]; go_simp
      have f7 : W2.cell? ⟨b', o' + q * 7, none⟩ = some (.int .i64 dk) := by rw [eW2]; go_simp
      have f8 : W2.cell? ⟨b', o' + q * 7 + 1, none⟩ = some (.slice b1' m1' e1') := by rw [eW2]; go_simp
      have f9 : W2.cell? ⟨b', o' + q * 7 + 2, none⟩ = some (.int .i64 rc) := by rw [eW2]; go_simp
      have f10 : W2.cell? ⟨b', o' + q * 7 + 3, none⟩ = some (.string s') := by rw [eW2]; go_simp
      have f11 : W2.cell? ⟨b', o' + q * 7 + 4, none⟩ = some (.slice b2' m2' e2') := by rw [eW2]; go_simp
      have f12 : W2.cell? ⟨b', o' + q * 7 + 5, none⟩ = some (.int .i64 mc) := by rw [eW2]; go_simp
      have f13 : W2.cell? ⟨b', o' + q * 7 + 6, none⟩ = some (.int .i64 dn) := by rw [eW2]; go_simp
      have zW2_0 : b < W2.heap.size := by rw [eW2]; first | assumption | omega | (simp <;> omega)
      have zW2_1 : b' < W2.heap.size := by rw [eW2]; first | assumption | omega | (simp <;> omega)
      have hw2 : Ext wr W2 := by rw [eW2]; exact extA
      clear eW2
      refine wp_region_later fol (by kernel_rfl) (fun hlater => ?_)
      repeat (go_big_quiet_step ((first
          | (go_at_call 64; (with_reducible exact later_of (HSM.out _ (ext_trans hw2 (Later.ext _))))))))
      refine wpQuiet_nil ?_
      rintro w3 ⟨⟨w3x, hx3⟩, rfl⟩
      clear hlater
      go_wp2_with fail
      go_roundw
      case rel => exact ⟨q + 1, by omega, by go_num, ext_trans HX.out (ext_trans hw2 hx3)⟩
      case measure => simp [intOf]; omega
    · go_wp2
      go_ret
      exact ⟨rfl, HX.out⟩
end Go.Proofs.Ytiladkinndgeaaa
