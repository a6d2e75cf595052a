/- Runs of atoms, by the document. -/
import Derived.Test.YtfgfdohppgoajaaGreatQebf1797204
import Derived.Laws.IdiomStrings
import Derived.Deep.RegionHeldLaw
import Derived.Deep.RegionLaw
import Derived.Test.YtfgfdohppgoajaaGreatQ0968510478
set_option linter.unusedVariables false
set_option linter.unusedSimpArgs false
namespace Go.Proofs.YtfgfdohppgoajaaGreat
open Go Go.RowKit Go.BigFrame Cp

theorem runsA_last {l : List At} {k : Nat} {a : At} (h : l[k]? = some a) : ∃ r, (runsA (l.take (k + 1)))[(runsA (l.take (k + 1))).length - 1]? = some r ∧ afterM r.1 r.2.length = afterM a.1 1 := by
  rw [runsA_step h]
  generalize runsA (l.take k) = q
  have hnew : ∃ r, (q ++ [(a.1, [a.2])])[(q ++ [(a.1, [a.2])]).length - 1]? = some r ∧ afterM r.1 r.2.length = afterM a.1 1 := ⟨(a.1, [a.2]), by simp, rfl⟩
  by_cases hq : q = []
  · subst hq; exact hnew
  · have hlt : q.length - 1 < q.length := by have := List.length_pos_iff.2 hq; omega
    have hr := List.getElem?_eq_getElem hlt
    cases hb : joinsB q[q.length - 1] a with
    | true =>
      rw [runStep_join hr hb]
      refine ⟨((q[q.length - 1]).1, (q[q.length - 1]).2 ++ [a.2]), ?_, ?_⟩
      · rw [List.length_set, List.getElem?_set_self hlt]
      · unfold joinsB at hb
        rw [Bool.and_eq_true, beq_iff_eq] at hb
        have he := ordM_zero.1 hb.2
        rw [← he, afterM_add]
        simp
    | false => rw [runStep_new hr hb]; exact hnew
theorem runsA_ne {l : List At} {k : Nat} {a : At} (h : l[k]? = some a) : (runsA (l.take (k + 1))).length ≠ 0 := by
  obtain ⟨r, h1, _⟩ := runsA_last h
  intro h0
  rw [List.length_eq_zero_iff.1 h0] at h1
  simp at h1
theorem same_joins {r : Rn} {a : At} {m : Mk} (hl : r.2.length < 60) (hi : afterM r.1 r.2.length = afterM m 1) : (ordM a.1 (afterM m 1) == 0) = joinsB r a := by
  unfold joinsB
  rw [decide_eq_true hl, Bool.true_and, ← hi, Bool.eq_iff_iff, beq_iff_eq, beq_iff_eq, ordM_zero, ordM_zero]
  exact ⟨fun h => h.symm, fun h => h.symm⟩
theorem not_joins {r : Rn} {a : At} (hl : ¬ r.2.length < 60) : joinsB r a = false := by
  unfold joinsB
  rw [decide_eq_false hl, Bool.false_and]
theorem rn_one {F : Nat → Prop} {W : World} {r : Nat} {v : Value} {p : List Stp} {c : Int} {s : ByteArray} {t : Tx} (h : RSl RStp 2 F W v p) (i : I64 c) (hs : s.data.toList = t) (hz : s.size ≤ 60) (z0 : W.cell? ⟨r, 0, none⟩ = some v) (z1 : W.cell? ⟨r, 1, none⟩ = some (.int .i64 c)) (z2 : W.cell? ⟨r, 2, none⟩ = some (.string s))
    (hF : F r) (hr : r < W.heap.size) : RSl RRn 3 F W (.slice (some ⟨r, 0, none⟩) 1 1) [((p, c), t)] :=
  rsl_of_range (rangeAt3 z0 z1 z2) (chunks_one (x := ((p, c), t)) rfl (rrn_of h i (hs ▸ rtx_s (by omega)))) hF hr (Nat.le_refl _) (by unfold maxLen; omega)
theorem byte_string (s : UInt8) (W : World) (b : Nat) (h : W.cell? ⟨b, 0, none⟩ = some (.int .u8 s.toNat)) :
    (convert 160 9 (.slice (some ⟨b, 0, none⟩) 1 1)).run Tryz.prog W = .ok (.string ⟨#[s]⟩) W :=
  run_convert_bytes_back W 160 9 5 ⟨b, 0, none⟩ 1 [s] Tryz.underlying160 Tryz.underlying5 Tryz.underlying9 (fun j hj => by
    have : j = 0 := by simpa using hj
    subst this
    exact h)
theorem lm300 {n m : Nat} (h : n ≤ 300) (hm : m = 1) : n + m ≤ maxLen := Nat.le_trans (by omega : n + m ≤ 301) (by unfold maxLen; decide)
theorem lb300 {n m : Nat} (h : n ≤ 300) (hm : m = 1) : (n + m) * 48 ≤ 140737488355328 := by subst hm; omega
theorem i64w {n : Nat} (h : n ≤ 300) : IntKind.i64.wrap (n : Int) = n := IntWalk.i64_in _ (by omega)
theorem i64w1 {n : Nat} (h : n ≤ 300) : IntKind.i64.wrap ((n : Int) + 1 - 1) = n := by rw [Int.add_sub_cancel]; exact i64w h
theorem eb_list {eb : ByteArray} {s : UInt8} (h : eb = ⟨#[s]⟩) : eb.data.toList = [s] := by subst h; rfl
theorem wrap_two {m : Nat} (h : m ≤ 300) : wrap64 ((m : Int) + 1 + 1) = ((m + 1 + 1 : Nat) : Int) := by rw [IntWalk.wrap64_in _ (by omega)]; rfl
theorem meas_two {m n : Nat} (h : m + 1 < n) : n - (intOf (.int .i64 ((m + 1 + 1 : Nat) : Int))).toNat < n - (intOf (.int .i64 ((m + 1 : Nat) : Int))).toNat := by simp only [intOf, Int.toNat_natCast]; omega
def IsRunsX (l : List Rn) (w : World) (e : Ending) (w' : World) : Prop := ∃ v, e = .returned v ∧ RSl RRn 3 (fun _ => True) w' v l ∧ Ext w w'

set_option maxRecDepth 100000 in
set_option maxHeartbeats 4000000 in
theorem runsOf_any {F : Nat → Prop} {w : World} {v : Value} {l : List At} (h0 : RSl RAt 3 F w v l) (hc : checkA l = 0) :
    Calls Tryz.prog 79 #[v] w (IsRunsX (runsA l) w) := by
  have h : RSl RAt 3 (fun j => j < w.heap.size) w v l := RSl.more gAt (fun _ _ hk => hk) h0
  clear h0
  have HOK := Lib.hid (checkA_ok hc)
  have hl3 := HOK.out.1
  have HL := Lib.hid (fun (W : World) (hx : Ext w W) => h.ext gAt hx)
  obtain ⟨a0, n0, c0, rfl⟩ := h.slice
  obtain ⟨rfl, _, _⟩ := h.len
  obtain ⟨i0, hi0, hz0, hz1', hz2⟩ := info_parts info_run
  have HJ := Lib.hid hi0
  have HZ0 := Lib.hid hz0
  have HZ1 := Lib.hid hz1'
  have HZ2 := Lib.hid hz2
  clear h hc hi0 hz0 hz1' hz2
  go_enter Tryz.func79, Tryz.ntmps79
  go_wp2
  go_loopw [3, 4] (fun ov iv wr => ∃ k : Nat, k ≤ l.length ∧ iv = .int .i64 k ∧ Hid (OSl RRn 3 61 w.heap.size (fun _ => True) wr ov (runsA (l.take k))) ∧ Hid (RunsOk (runsA (l.take k))) ∧ Ext w wr) (fun _ iv _ => l.length - (intOf iv).toNat)
  case atStart => exact ⟨0, Nat.zero_le _, rfl, Lib.hid osl_nil, Lib.hid (fun r hr => by simp [runsA] at hr), ext_refl _⟩
  case round =>
    obtain ⟨k, hk, rfl, HO, HR, hx⟩ := hrel
    have hzr := hx.size
    have HX := Lib.hid hx
    clear hx
    obtain ⟨a5, n5, c5, rfl⟩ := osl_slice HO.out
    by_cases hlt : k < l.length
    · obtain ⟨b, o, p, d, s, ap, cp, rfl, hb, ek, ick, hpp, y0, y1, y2⟩ := atm_at (HL.out wr HX.out) hlt
      obtain ⟨b', o', _, _, _, _, _, eb', hb0, _⟩ := atm_at (HL.out w (ext_refl _)) hlt
      obtain ⟨rfl, rfl⟩ : b = b' ∧ o = o' := by simp at eb'; exact eb'
      clear eb'
      have g0 := (HX.out.cells b _ hb0).symm.trans y0
      have g1 := (HX.out.cells b _ hb0).symm.trans y1
      have g2 := (HX.out.cells b _ hb0).symm.trans y2
      have hat := HOK.out.2.2 _ (List.mem_of_getElem? ek)
      have HS := Lib.hid (runsA_step ek)
      have HRN := Lib.hid (show RunsOk (runsA (l.take (k + 1))) by rw [HS.out]; exact runsOk_step HR.out hat.1)
      have hql := runsA_len l k
      have HPP := Lib.hid (fun (W : World) (hx : Ext wr W) => (hpp.ext gStp hx))
      have HIC := Lib.hid ick
      obtain ⟨eb, heb⟩ : ∃ eb : ByteArray, eb = ⟨#[s]⟩ := ⟨_, rfl⟩
      have hcv := byte_string s
      rw [← heb] at hcv
      have HEB := Lib.hid heb
      have hebs : eb.size = 1 := by rw [heb]; rfl
      clear heb
      have HOL := Lib.hid (osl_lt HO.out)
      by_cases hk0 : k = 0
      · subst hk0
        have HQ : runsA (l.take 0) = [] := rfl
        rw [HQ] at HO HS HR
        rw [runStep_nil] at HS
        obtain rfl : n5 = 0 := (osl_len HO.out).1
        clear ek hpp ick hat HR HQ hql
        have t0 : decide (0 < ((0 : Nat) : Int)) = false := rfl
        simp only [Nat.zero_mul, Nat.add_zero] at y0 y1 y2 g0 g1 g2
        go_wp2_with fail
        refine wp_name (fun W2 eW2 => ?_)
        have e0 : W2.cell? ⟨b, o, none⟩ = some (.slice ap p.length cp) := by rw [eW2]; go_simp
        have e1 : W2.cell? ⟨b, o + 1, none⟩ = some (.int .i64 d) := by rw [eW2]; go_simp
        have e2 : W2.cell? ⟨b, o + 2, none⟩ = some (.int .u8 s.toNat) := by rw [eW2]; go_simp
        have zW2_0 : b < W2.heap.size := by rw [eW2]; first | assumption | omega | (simp <;> omega)
        have hw2 : Ext wr W2 := by rw [eW2]; exact extA
        clear eW2
        refine wp_region_later fol (by kernel_rfl) (fun hlater => ?_)
        repeat (go_big_quiet_step ((fail)))
        refine wpQuiet_nil ?_
        rintro w3 ⟨⟨w3x, hx3⟩, rfl⟩
        clear hlater
        have fz0 := (hx3.cells b (o) (by omega)).trans e0
        have fz1 := (hx3.cells b (o + 1) (by omega)).trans e1
        have fz2 := (hx3.cells b (o + 2) (by omega)).trans e2
        have hz3 := hx3.size
        have hw3 : Ext wr w3 := ext_trans hw2 hx3
        have hz3w := hw3.size
        have hb3 : b < w3.heap.size := by omega
        go_wp2_with fail
        go_region_held_law (fun W => W.cell? ⟨b, o, none⟩ = some (.slice ap p.length cp) ∧ W.cell? ⟨b, o + 1, none⟩ = some (.int .i64 d) ∧ W.cell? ⟨b, o + 2, none⟩ = some (.int .u8 s.toNat))
          (first | go_keep | (refine ⟨?_, ?_, ?_⟩ <;> (rw [hx9.cells _ _ hb0]; assumption)))
          (((refine step_appAll gRn (by rfl) (.tmp 57) (.tmp 71) 49 (by rfl) w.heap.size 61 i0 _ 3 48 Tryz.underlying49 HJ.out HZ0.out HZ1.out HZ2.out (by rfl) (by omega) (F := fun _ => True) (G := fun j => j < w.heap.size ∨ wr.heap.size ≤ j) (.slice a5 0 c5) [] (by rfl) (osl_ext gRn HO.out (ext_trans hw3 extA)) (.slice (some ⟨w3.heap.size + 1, 0, none⟩) 1 1) [((p, d), [s])] (by rfl) (rn_one (RSl.more gStp (fun j hj _ => Or.inl hj) (HPP.out _ (ext_trans hw3 extA))) HIC.out (eb_list HEB.out) (by omega) (by go_simp) (by go_simp) (by go_simp) (Or.inr (by omega)) (by simp)) one_rn (fun j hj _ => ⟨trivial, fun e => by have := HOL.out j e.symm; rcases hj with h | h <;> omega⟩) (lm300 (by simp) rfl) (lb300 (by simp) rfl) (by simp; omega) ?_); intro v9 w9 hown9 hg9 hat9; have hx9 : Ext w w9 := ext_grow (ext_trans HX.out (ext_trans hw3 extA)) hg9 (fun j hj => (HOL.out j hj).1)))
        all_goals
          go_wp2_with fail
          go_roundw
          case rel => exact ⟨0 + 1, by omega, by go_num, Lib.hid (by rw [HS.out]; exact hown9), HRN, hx9⟩
          case measure => simp [intOf]; omega
      · obtain ⟨m, rfl⟩ : ∃ m, k = m + 1 := ⟨k - 1, by omega⟩
        obtain ⟨b2, o2, pm, dm, sm, am, cm, eb2, hb2, em, icm, hpm, x0, x1, _⟩ := atm_at (HL.out wr HX.out) (show m < l.length by omega)
        obtain ⟨rfl, rfl⟩ : b = b2 ∧ o = o2 := by simp at eb2; exact eb2
        have hatm := HOK.out.2.2 _ (List.mem_of_getElem? em)
        obtain ⟨r0, hr0, hr1⟩ := runsA_last em
        have hne := runsA_ne em
        have HAF := Lib.hid (fun (W : World) (hx : Ext wr W) => afterOf_any (k := 1) (rmk_of' (hpm.ext gStp hx) icm) (check_len hatm.1) (check_ne hatm.1) (check_digit hatm.1) (check_clock hatm.1) ⟨by omega, by omega⟩)
        clear hatm hpm icm em
        generalize hqq : runsA (l.take (m + 1)) = q at *
        clear hqq
        obtain ⟨n, hn⟩ : ∃ n, q.length = n + 1 := ⟨q.length - 1, by omega⟩
        obtain rfl : n5 = n + 1 := (osl_len HO.out).1.trans hn
        obtain ⟨g5, p5, d5, s5, ap5, cp5, e5, hb5, hs5, ex5, hsx5, ix5, hpx5, v0, v1, v2, vf⟩ := orun_at HO.out (i := n) (by omega)
        subst e5
        have hro := HR.out _ (List.mem_of_getElem? ex5)
        have hs560 : s5.size ≤ 60 := by simpa using hro.2.1
        have ex5' : q[q.length - 1]? = some ((p5, d5), s5.data.toList) := by rw [hn]; exact ex5
        obtain rfl : r0 = ((p5, d5), s5.data.toList) := by rw [ex5'] at hr0; exact (Option.some.inj hr0).symm
        have hn3 : n ≤ 300 := by omega
        have hq300 : q.length ≤ 300 := by omega
        have hm3 : m ≤ 300 := by omega
        have hwn : wrap64 (n : Int) = (n : Int) := IntWalk.wrap64_in _ (by omega)
        have hwm : wrap64 (m : Int) = (m : Int) := IntWalk.wrap64_in _ (by omega)
        have t0 : decide (0 < ((m + 1 : Nat) : Int)) = true := decide_eq_true (Int.natCast_pos.2 (Nat.succ_pos _))
        have t0b : decide (0 < (m : Int) + 1) = true := decide_eq_true (Int.lt_add_one_iff.2 (Int.natCast_nonneg m))
        have t2 : decide ((m : Int) + 1 < (l.length : Int)) = true := decide_eq_true (by exact_mod_cast hlt)
        have t2b : decide (m + 1 < l.length) = true := decide_eq_true hlt
        have HN := Lib.hid hn
        have hsl5 : s5.data.toList.length = s5.size := by simp
        by_cases h60 : s5.size < 60
        · have t1 : decide ((s5.size : Int) < 60) = true := decide_eq_true (Int.ofNat_lt.2 h60)
          have t1b : decide (s5.size < 60) = true := decide_eq_true h60
          have hSJ := same_joins (r := ((p5, d5), s5.data.toList)) (a := ((p, d), s)) (m := (pm, dm)) (by simpa using h60) hr1
          cases hjb : joinsB ((p5, d5), s5.data.toList) ((p, d), s) with
          | true =>
            rw [hjb] at hSJ
            have HSM := Lib.hid (fun (W : World) (ds : List Value) (G : Nat → Prop) (hd : RMk G W ds (afterM (pm, dm) 1)) (hx : Ext wr W) => (show Calls _ _ _ W _ by have h9 := same_any (rmk_of' (hpp.ext gStp hx) ick) hd; rw [hSJ] at h9; exact h9))
            have HSJ := Lib.hid (HS.out.trans (runStep_join ex5' hjb))
            have HPT := Lib.hid (fun (W : World) (hx : Ext wr W) => put_text (osl_ext gRn HO.out hx) (i := n) (by omega) ex5 HEB.out hs560)
            have hsum : ¬ 9223372036854775807 < s5.size + eb.size := by omega
            clear ex5' ex5 hro hpx5 ix5 hsx5 hjb hn hql HS hr0 hr1 hne hpp ick hat ek hsl5 hSJ HR
            go_wp2_with fail
            have iw1 := i64w hn3
            have iw2 := i64w1 hn3
            have iw3 := i64w hm3
            have iw4 := i64w1 hm3
            have nn0 : (0 : Int) ≤ (n : Int) := Int.natCast_nonneg n
            have nn1 : (n : Int) < (n : Int) + 1 := Int.lt_succ _
            have mm0 : (0 : Int) ≤ (m : Int) := Int.natCast_nonneg m
            have mm1 : (m : Int) < (l.length : Int) := Int.ofNat_lt.2 (Nat.lt_of_succ_lt hlt)
            have mm2 : (0 : Int) ≤ (m : Int) + 1 := Int.le_add_one mm0
            have mm3 : (m : Int) + 1 < (l.length : Int) := by exact_mod_cast hlt
            go_region_held3 (fun W => W.cell? ⟨b, o + (m + 1) * 3, none⟩ = some (.slice ap p.length cp) ∧ W.cell? ⟨b, o + (m + 1) * 3 + 1, none⟩ = some (.int .i64 d) ∧ W.cell? ⟨b, o + m * 3, none⟩ = some (.slice am pm.length cm) ∧ W.cell? ⟨b, o + m * 3 + 1, none⟩ = some (.int .i64 dm) ∧ W.cell? ⟨g5, n * 3 + 2, none⟩ = some (.string s5))
              (first | go_keep | (refine ⟨?_, ?_, ?_, ?_, ?_⟩ <;> assumption) | (refine ⟨?_, ?_, ?_, ?_, ?_⟩ <;> (rw [hx7.cells _ _ (by first | omega | (simp <;> omega))]; first | assumption | go_simp)) | (refine ⟨?_, ?_, ?_, ?_, ?_⟩ <;> (rw [hx6.cells _ _ (by first | omega | (simp <;> omega))]; first | assumption | go_simp)))
              (first
                | (go_at_call 122; go_must ((with_reducible refine (HAF.out _ extA).mono ?_); rintro e w6 ⟨cs6, rfl, hm6, hx6⟩; have HM6 := Lib.hid (omk_mk hm6); obtain ⟨v6, rfl, hv6, hi6⟩ := hm6; obtain ⟨a6, n6, c6, rfl⟩ := osl_slice hv6; have hz6 := hx6.size; (try simp at hz6); have m0 := (hx6.cells (b) (o + (m + 1) * 3) (by first | omega | (simp <;> omega))).trans (show _ = some (.slice ap p.length cp) by first | assumption | go_simp); have m1 := (hx6.cells (b) (o + (m + 1) * 3 + 1) (by first | omega | (simp <;> omega))).trans (show _ = some (.int .i64 d) by first | assumption | go_simp); have m2 := (hx6.cells (b) (o + (m + 1) * 3 + 2) (by first | omega | (simp <;> omega))).trans (show _ = some (.int .u8 s.toNat) by first | assumption | go_simp); have m3 := (hx6.cells (g5) (n * 3 + 2) (by first | omega | (simp <;> omega))).trans (show _ = some (.string s5) by first | assumption | go_simp); have m4 := (hx6.cells (b) (o + m * 3) (by first | omega | (simp <;> omega))).trans (show _ = some (.slice am pm.length cm) by first | assumption | go_simp); have m5 := (hx6.cells (b) (o + m * 3 + 1) (by first | omega | (simp <;> omega))).trans (show _ = some (.int .i64 dm) by first | assumption | go_simp); have mf0 := (hx6.frz (g5) (n * 3 + 2) (by first | omega | (simp <;> omega))).trans (show _ = false by first | assumption | go_simp); clear hv6 hi6))
                | (go_at_call 52; go_must ((with_reducible refine (HSM.out _ _ _ (gMk.ext HM6.out extA) extA).mono ?_); rintro e w7 ⟨rfl, hx7⟩; have hz7 := hx7.size; (try simp at hz7); have q0 := (hx7.cells (b) (o + (m + 1) * 3) (by first | omega | (simp <;> omega))).trans (show _ = some (.slice ap p.length cp) by first | assumption | go_simp); have q1 := (hx7.cells (b) (o + (m + 1) * 3 + 1) (by first | omega | (simp <;> omega))).trans (show _ = some (.int .i64 d) by first | assumption | go_simp); have q2 := (hx7.cells (b) (o + (m + 1) * 3 + 2) (by first | omega | (simp <;> omega))).trans (show _ = some (.int .u8 s.toNat) by first | assumption | go_simp); have q3 := (hx7.cells (g5) (n * 3 + 2) (by first | omega | (simp <;> omega))).trans (show _ = some (.string s5) by first | assumption | go_simp); have q4 := (hx7.cells (b) (o + m * 3) (by first | omega | (simp <;> omega))).trans (show _ = some (.slice am pm.length cm) by first | assumption | go_simp); have q5 := (hx7.cells (b) (o + m * 3 + 1) (by first | omega | (simp <;> omega))).trans (show _ = some (.int .i64 dm) by first | assumption | go_simp); have qf0 := (hx7.frz (g5) (n * 3 + 2) (by first | omega | (simp <;> omega))).trans (show _ = false by first | assumption | go_simp))))
            go_wp2_with fail
            have hg7 : g5 < w7.heap.size := by omega
            have hg7n : ¬ g5 = w7.heap.size := by omega
            have hg7m : ¬ w7.heap.size = g5 := by omega
            have hb7 : b < w7.heap.size := by omega
            have hb7n : ¬ b = w7.heap.size := by omega
            have hbg : ¬ b = g5 := by omega
            have hgb : ¬ g5 = b := by omega
            clear hebs
            go_region_law (fail)
            all_goals clear iw1 iw2 iw3 iw4
            all_goals go_wp2_with fail
            all_goals go_roundw
            all_goals have hw7r : Ext wr w7 := extA
            all_goals have hw7 : Ext w w7 := ext_trans HX.out hw7r
            all_goals rw [wrap_two hm3]
            all_goals first
              | exact ⟨m + 1 + 1, Nat.succ_le_of_lt hlt, rfl, Lib.hid (osl_ext gRn (osl_of_eq (HPT.out _ hw7r) (by rw [HSJ.out, HN.out]; rfl)) (by repeat (first | exact ext_refl _ | refine ext_drew ?_ | refine ext_alloc ?_ _))), HRN, (by repeat (first | (with_reducible exact ext_refl _) | (with_reducible assumption) | (with_reducible refine ext_drew ?_) | (with_reducible refine ext_drewN ?_ _) | (with_reducible refine ext_alloc ?_ _) | (with_reducible refine ext_set ?_ (by first | assumption | omega) _) | (with_reducible refine ext_trans ?_ (by with_reducible assumption))))⟩
              | exact meas_two hlt
          | false =>
            rw [hjb] at hSJ
            have HSM := Lib.hid (fun (W : World) (ds : List Value) (G : Nat → Prop) (hd : RMk G W ds (afterM (pm, dm) 1)) (hx : Ext wr W) => (show Calls _ _ _ W _ by have h9 := same_any (rmk_of' (hpp.ext gStp hx) ick) hd; rw [hSJ] at h9; exact h9))
            have HSJ := Lib.hid (HS.out.trans (runStep_new ex5' hjb))
            clear ex5' ex5 hro hpx5 ix5 hsx5 hjb hn hql HS hr0 hr1 hne hpp ick hat ek hsl5 hSJ HR
            go_wp2_with fail
            have iw1 := i64w hn3
            have iw2 := i64w1 hn3
            have iw3 := i64w hm3
            have iw4 := i64w1 hm3
            have nn0 : (0 : Int) ≤ (n : Int) := Int.natCast_nonneg n
            have nn1 : (n : Int) < (n : Int) + 1 := Int.lt_succ _
            have mm0 : (0 : Int) ≤ (m : Int) := Int.natCast_nonneg m
            have mm1 : (m : Int) < (l.length : Int) := Int.ofNat_lt.2 (Nat.lt_of_succ_lt hlt)
            have mm2 : (0 : Int) ≤ (m : Int) + 1 := Int.le_add_one mm0
            have mm3 : (m : Int) + 1 < (l.length : Int) := by exact_mod_cast hlt
            go_region_held3 (fun W => W.cell? ⟨b, o + (m + 1) * 3, none⟩ = some (.slice ap p.length cp) ∧ W.cell? ⟨b, o + (m + 1) * 3 + 1, none⟩ = some (.int .i64 d) ∧ W.cell? ⟨b, o + m * 3, none⟩ = some (.slice am pm.length cm) ∧ W.cell? ⟨b, o + m * 3 + 1, none⟩ = some (.int .i64 dm) ∧ W.cell? ⟨g5, n * 3 + 2, none⟩ = some (.string s5))
              (first | go_keep | (refine ⟨?_, ?_, ?_, ?_, ?_⟩ <;> assumption) | (refine ⟨?_, ?_, ?_, ?_, ?_⟩ <;> (rw [hx7.cells _ _ (by first | omega | (simp <;> omega))]; first | assumption | go_simp)) | (refine ⟨?_, ?_, ?_, ?_, ?_⟩ <;> (rw [hx6.cells _ _ (by first | omega | (simp <;> omega))]; first | assumption | go_simp)))
              (first
                | (go_at_call 122; go_must ((with_reducible refine (HAF.out _ extA).mono ?_); rintro e w6 ⟨cs6, rfl, hm6, hx6⟩; have HM6 := Lib.hid (omk_mk hm6); obtain ⟨v6, rfl, hv6, hi6⟩ := hm6; obtain ⟨a6, n6, c6, rfl⟩ := osl_slice hv6; have hz6 := hx6.size; (try simp at hz6); have m0 := (hx6.cells (b) (o + (m + 1) * 3) (by first | omega | (simp <;> omega))).trans (show _ = some (.slice ap p.length cp) by first | assumption | go_simp); have m1 := (hx6.cells (b) (o + (m + 1) * 3 + 1) (by first | omega | (simp <;> omega))).trans (show _ = some (.int .i64 d) by first | assumption | go_simp); have m2 := (hx6.cells (b) (o + (m + 1) * 3 + 2) (by first | omega | (simp <;> omega))).trans (show _ = some (.int .u8 s.toNat) by first | assumption | go_simp); have m3 := (hx6.cells (g5) (n * 3 + 2) (by first | omega | (simp <;> omega))).trans (show _ = some (.string s5) by first | assumption | go_simp); have m4 := (hx6.cells (b) (o + m * 3) (by first | omega | (simp <;> omega))).trans (show _ = some (.slice am pm.length cm) by first | assumption | go_simp); have m5 := (hx6.cells (b) (o + m * 3 + 1) (by first | omega | (simp <;> omega))).trans (show _ = some (.int .i64 dm) by first | assumption | go_simp); have mf0 := (hx6.frz (g5) (n * 3 + 2) (by first | omega | (simp <;> omega))).trans (show _ = false by first | assumption | go_simp); clear hv6 hi6))
                | (go_at_call 52; go_must ((with_reducible refine (HSM.out _ _ _ (gMk.ext HM6.out extA) extA).mono ?_); rintro e w7 ⟨rfl, hx7⟩; have hz7 := hx7.size; (try simp at hz7); have q0 := (hx7.cells (b) (o + (m + 1) * 3) (by first | omega | (simp <;> omega))).trans (show _ = some (.slice ap p.length cp) by first | assumption | go_simp); have q1 := (hx7.cells (b) (o + (m + 1) * 3 + 1) (by first | omega | (simp <;> omega))).trans (show _ = some (.int .i64 d) by first | assumption | go_simp); have q2 := (hx7.cells (b) (o + (m + 1) * 3 + 2) (by first | omega | (simp <;> omega))).trans (show _ = some (.int .u8 s.toNat) by first | assumption | go_simp); have q3 := (hx7.cells (g5) (n * 3 + 2) (by first | omega | (simp <;> omega))).trans (show _ = some (.string s5) by first | assumption | go_simp); have q4 := (hx7.cells (b) (o + m * 3) (by first | omega | (simp <;> omega))).trans (show _ = some (.slice am pm.length cm) by first | assumption | go_simp); have q5 := (hx7.cells (b) (o + m * 3 + 1) (by first | omega | (simp <;> omega))).trans (show _ = some (.int .i64 dm) by first | assumption | go_simp); have qf0 := (hx7.frz (g5) (n * 3 + 2) (by first | omega | (simp <;> omega))).trans (show _ = false by first | assumption | go_simp))))
            clear iw1 iw2 iw3 iw4
            go_wp2_with fail
            refine wp_name (fun w3 ew3 => ?_)
            have fz0 : w3.cell? ⟨b, o + (m + 1) * 3, none⟩ = some (.slice ap p.length cp) := by rw [ew3]; go_simp
            have fz1 : w3.cell? ⟨b, o + (m + 1) * 3 + 1, none⟩ = some (.int .i64 d) := by rw [ew3]; go_simp
            have fz2 : w3.cell? ⟨b, o + (m + 1) * 3 + 2, none⟩ = some (.int .u8 s.toNat) := by rw [ew3]; go_simp
            have zw3_0 : b < w3.heap.size := by rw [ew3]; first | assumption | omega | (simp <;> omega)
            have hw3 : Ext wr w3 := by rw [ew3]; exact extA
            clear ew3
            have hz3w := hw3.size
            have hb3 : b < w3.heap.size := by omega
            clear hx6 hx7 HM6
            go_region_held_law (fun W => W.cell? ⟨b, o + (m + 1) * 3, none⟩ = some (.slice ap p.length cp) ∧ W.cell? ⟨b, o + (m + 1) * 3 + 1, none⟩ = some (.int .i64 d) ∧ W.cell? ⟨b, o + (m + 1) * 3 + 2, none⟩ = some (.int .u8 s.toNat))
              (first | go_keep | (refine ⟨?_, ?_, ?_⟩ <;> (rw [hx9.cells _ _ hb0]; assumption)))
              (((refine step_appAll gRn (by rfl) (.tmp 57) (.tmp 71) 49 (by rfl) w.heap.size 61 i0 _ 3 48 Tryz.underlying49 HJ.out HZ0.out HZ1.out HZ2.out (by rfl) (by omega) (F := fun _ => True) (G := fun j => j < w.heap.size ∨ wr.heap.size ≤ j) (.slice (some ⟨g5, 0, none⟩) (n + 1) c5) q (by rfl) (osl_ext gRn HO.out (ext_trans hw3 extA)) (.slice (some ⟨w3.heap.size + 1, 0, none⟩) 1 1) [((p, d), [s])] (by rfl) (rn_one (RSl.more gStp (fun j hj _ => Or.inl hj) (HPP.out _ (ext_trans hw3 extA))) HIC.out (eb_list HEB.out) (by omega) (by go_simp) (by go_simp) (by go_simp) (Or.inr (by omega)) (by simp)) one_rn (fun j hj _ => ⟨trivial, fun e => by have := HOL.out j e.symm; rcases hj with h | h <;> omega⟩) (lm300 hq300 rfl) (lb300 hq300 rfl) (by simp; omega) ?_); intro v9 w9 hown9 hg9 hat9; have hx9 : Ext w w9 := ext_grow (ext_trans HX.out (ext_trans hw3 extA)) hg9 (fun j hj => (HOL.out j hj).1)))
            all_goals
              go_wp2_with fail
              go_roundw
              case rel => rw [wrap_two hm3]; exact ⟨m + 1 + 1, Nat.succ_le_of_lt hlt, rfl, Lib.hid (by rw [HSJ.out]; exact hown9), HRN, hx9⟩
              case measure => rw [wrap_two hm3]; exact meas_two hlt
        · have t1 : decide ((s5.size : Int) < 60) = false := decide_eq_false (fun h9 => h60 (Int.ofNat_lt.1 h9))
          have t1b : decide (s5.size < 60) = false := decide_eq_false h60
          have HSJ := Lib.hid (HS.out.trans (runStep_new ex5' (not_joins (r := ((p5, d5), s5.data.toList)) (a := ((p, d), s)) (by simpa using h60))))
          clear ex5' ex5 hro hpx5 ix5 hsx5 hn hql HS hr0 hr1 hne hpp ick hat ek hsl5 HR HAF h60
          go_wp2_with fail
          have iw1 := i64w hn3
          have iw2 := i64w1 hn3
          have iw3 := i64w hm3
          have iw4 := i64w1 hm3
          have nn0 : (0 : Int) ≤ (n : Int) := Int.natCast_nonneg n
          have nn1 : (n : Int) < (n : Int) + 1 := Int.lt_succ _
          have mm0 : (0 : Int) ≤ (m : Int) := Int.natCast_nonneg m
          have mm1 : (m : Int) < (l.length : Int) := Int.ofNat_lt.2 (Nat.lt_of_succ_lt hlt)
          have mm2 : (0 : Int) ≤ (m : Int) + 1 := Int.le_add_one mm0
          have mm3 : (m : Int) + 1 < (l.length : Int) := by exact_mod_cast hlt
          refine wp_name (fun W2 eW2 => ?_)
          have e0 : W2.cell? ⟨b, o + (m + 1) * 3, none⟩ = some (.slice ap p.length cp) := by rw [eW2]; go_simp
          have e1 : W2.cell? ⟨b, o + (m + 1) * 3 + 1, none⟩ = some (.int .i64 d) := by rw [eW2]; go_simp
          have e2 : W2.cell? ⟨b, o + (m + 1) * 3 + 2, none⟩ = some (.int .u8 s.toNat) := by rw [eW2]; go_simp
          have e3 : W2.cell? ⟨g5, n * 3 + 2, none⟩ = some (.string s5) := by rw [eW2]; go_simp
          have zW2_0 : b < W2.heap.size := by rw [eW2]; first | assumption | omega | (simp <;> omega)
          have zW2_1 : g5 < W2.heap.size := by rw [eW2]; first | assumption | omega | (simp <;> omega)
          have hw2 : Ext wr W2 := by rw [eW2]; exact extA
          clear eW2
          refine wp_region_later fol (by kernel_rfl) (fun hlater => ?_)
          repeat (go_big_quiet_step ((fail)))
          refine wpQuiet_nil ?_
          rintro w3 ⟨⟨w3x, hx3⟩, rfl⟩
          clear hlater
          have fz0 := (hx3.cells b (o + (m + 1) * 3) (by omega)).trans e0
          have fz1 := (hx3.cells b (o + (m + 1) * 3 + 1) (by omega)).trans e1
          have fz2 := (hx3.cells b (o + (m + 1) * 3 + 2) (by omega)).trans e2
          have hz3 := hx3.size
          have hw3 : Ext wr w3 := ext_trans hw2 hx3
          have hz3w := hw3.size
          have hb3 : b < w3.heap.size := by omega
          clear iw1 iw2 iw3 iw4
          go_wp2_with fail
          go_region_held_law (fun W => W.cell? ⟨b, o + (m + 1) * 3, none⟩ = some (.slice ap p.length cp) ∧ W.cell? ⟨b, o + (m + 1) * 3 + 1, none⟩ = some (.int .i64 d) ∧ W.cell? ⟨b, o + (m + 1) * 3 + 2, none⟩ = some (.int .u8 s.toNat))
            (first | go_keep | (refine ⟨?_, ?_, ?_⟩ <;> (rw [hx9.cells _ _ hb0]; assumption)))
            (((refine step_appAll gRn (by rfl) (.tmp 57) (.tmp 71) 49 (by rfl) w.heap.size 61 i0 _ 3 48 Tryz.underlying49 HJ.out HZ0.out HZ1.out HZ2.out (by rfl) (by omega) (F := fun _ => True) (G := fun j => j < w.heap.size ∨ wr.heap.size ≤ j) (.slice (some ⟨g5, 0, none⟩) (n + 1) c5) q (by rfl) (osl_ext gRn HO.out (ext_trans hw3 extA)) (.slice (some ⟨w3.heap.size + 1, 0, none⟩) 1 1) [((p, d), [s])] (by rfl) (rn_one (RSl.more gStp (fun j hj _ => Or.inl hj) (HPP.out _ (ext_trans hw3 extA))) HIC.out (eb_list HEB.out) (by omega) (by go_simp) (by go_simp) (by go_simp) (Or.inr (by omega)) (by simp)) one_rn (fun j hj _ => ⟨trivial, fun e => by have := HOL.out j e.symm; rcases hj with h | h <;> omega⟩) (lm300 hq300 rfl) (lb300 hq300 rfl) (by simp; omega) ?_); intro v9 w9 hown9 hg9 hat9; have hx9 : Ext w w9 := ext_grow (ext_trans HX.out (ext_trans hw3 extA)) hg9 (fun j hj => (HOL.out j hj).1)))
          all_goals
            go_wp2_with fail
            go_roundw
            case rel => rw [wrap_two hm3]; exact ⟨m + 1 + 1, Nat.succ_le_of_lt hlt, rfl, Lib.hid (by rw [HSJ.out]; exact hown9), HRN, hx9⟩
            case measure => rw [wrap_two hm3]; exact meas_two hlt
    · have hkl : k = l.length := by omega
      subst hkl
      have HF := Lib.hid (show OSl RRn 3 61 w.heap.size (fun _ => True) wr (.slice a5 n5 c5) (runsA l) by have := HO.out; rwa [List.take_of_length_le (Nat.le_refl _)] at this)
      go_wp2
      go_ret
      exact ⟨_, rfl, osl_rsl gRn HF.out (fun _ _ _ => trivial) (fun _ _ => trivial), HX.out⟩
end Go.Proofs.YtfgfdohppgoajaaGreat
/- runsIn: the runs of deeds that put, each of them. -/
namespace Go.Proofs.YtfgfdohppgoajaaGreat
open Go Go.RowKit Go.BigFrame Cp

theorem run_oneL {F : Nat → Prop} {W : World} {r : Nat} {v : Value} {x : Rn} {s : ByteArray} (h : RSl RStp 2 F W v x.1.1) (i : I64 x.1.2) (hs : x.2 = s.data.toList) (hz : s.size ≤ 140737488351232) (z0 : W.cell? ⟨r, 0, none⟩ = some v) (z1 : W.cell? ⟨r, 1, none⟩ = some (.int .i64 x.1.2)) (z2 : W.cell? ⟨r, 2, none⟩ = some (.string s))
    (hF : F r) (hr : r < W.heap.size) : RSl RRn 3 F W (.slice (some ⟨r, 0, none⟩) 1 1) [x] :=
  rsl_of_range (rangeAt3 z0 z1 z2) (chunks_one (x := x) rfl ⟨_, _, rfl, h, i, hs ▸ rtx_s hz⟩) hF hr (Nat.le_refl _) (by unfold maxLen; omega)
theorem map_snocR {α β : Type} {l : List α} {k : Nat} {a : α} {f : α → β} (h : l[k]? = some a) : (l.take (k + 1)).map f = (l.take k).map f ++ [f a] := by
  obtain ⟨h1, h2⟩ := List.getElem?_eq_some_iff.1 h
  rw [List.take_succ_eq_append_getElem h1, h2, List.map_append]; rfl
set_option maxRecDepth 100000 in
set_option maxHeartbeats 4000000 in
theorem runsIn_any {F : Nat → Prop} {w : World} {v : Value} {l : List De} (h : RSl RDe 7 F w v l) (hl : l.length ≤ 300) :
    Calls Tryz.prog 80 #[v] w (IsRunsX (l.map (·.run)) w) := by
  have HL := Lib.hid (show RSl RDe 7 (fun j => j < w.heap.size) w v l from RSl.more gDe (fun _ _ hk => hk) h)
  obtain ⟨a, n, c, rfl⟩ := h.slice
  obtain rfl : n = l.length := h.len.1
  obtain ⟨i0, hi0, hz0, hz1', hz2⟩ := info_parts info_run
  have HJ := Lib.hid hi0
  have HZ0 := Lib.hid hz0
  have HZ1 := Lib.hid hz1'
  have HZ2 := Lib.hid hz2
  clear h hi0 hz0 hz1' hz2
  go_enter Tryz.func80, Tryz.ntmps80
  go_wp2
  go_loopw [3, 4] (fun ov iv wr => ∃ k : Nat, k ≤ l.length ∧ iv = .int .i64 k ∧ Hid (OSl RRn 3 61 w.heap.size (fun _ => True) wr ov ((l.take k).map (·.run))) ∧ Hid (Ext w wr)) (fun _ iv _ => l.length - (intOf iv).toNat)
  case atStart => exact ⟨0, Nat.zero_le _, rfl, Lib.hid osl_nil, Lib.hid (ext_refl _)⟩
  case round =>
    obtain ⟨k, hk, rfl, HO, HX⟩ := hrel
    have HOL := Lib.hid (osl_lt HO.out)
    obtain ⟨a6, n6, c6, rfl⟩ := osl_slice HO.out
    obtain rfl : n6 = ((l.take k).map (·.run)).length := (osl_len HO.out).1
    have hml : ((l.take k).map (·.run)).length = k := by rw [List.length_map, List.length_take]; omega
    have hsr := HX.out.size
    by_cases hlt : k < l.length
    · obtain ⟨b, o, d, b1, m1, e1, b2, m2, e2, s, rfl, hb, ek, hde, u0, u1, u2, u3, u4, u5, u6⟩ := deed_at HL.out hlt
      have v1 := (HX.out.cells _ _ hb).trans u1
      have v2 := (HX.out.cells _ _ hb).trans u2
      have v3 := (HX.out.cells _ _ hb).trans u3
      obtain ⟨p1, x1, w1, he, _, k1, k2, k3, _, _, _⟩ := hde
      injection he with he0 he
      injection he with he1 he
      injection he with he2 he
      injection he with he3 he
      subst he1
      subst he3
      obtain ⟨s', hs1, hs2, hs3⟩ := tx_bytes k3
      obtain rfl : s = s' := by injection hs1
      have HK1 := Lib.hid (fun (W : World) (hx : Ext wr W) => k1.ext gStp (ext_trans HX.out hx))
      have HK2 := Lib.hid k2
      have HS2 := Lib.hid hs2
      have hsn := map_snocR (f := fun (d : De) => d.run) ek
      have hbr : b < wr.heap.size := by omega
      rw [hml] at HO HOL ⊢
      generalize (l.take k).map (·.run) = ms at *
      clear ek k1 k2 k3 hs1 hs2 he he0 he2
      go_wp2_with (first | (at_builtin; go_must (refine wpList_appAll gRn rfl (.tmp 11) (.tmp 17) 49 rfl w.heap.size 61 i0 _ 3 48 Tryz.underlying49 HJ.out HZ0.out HZ1.out HZ2.out rfl (by omega) (F := fun _ => True) (G := fun j => j < w.heap.size ∨ j = wr.heap.size) (.slice a6 k c6) ms rfl (osl_ext gRn HO.out extA) _ [d.run] rfl (run_oneL (RSl.more gStp (fun j hj _ => Or.inl hj) (HK1.out _ extA)) HK2.out HS2.out hs3 (by first | assumption | go_simp) (by first | assumption | go_simp) (by first | assumption | go_simp) (Or.inr rfl) (by first | omega | (simp <;> omega))) one_rn (fun j hj _ => ⟨trivial, fun e => by have := HOL.out j e.symm; rcases hj with h | h <;> omega⟩) (lm300 (by omega) rfl) (lb300 (by omega) rfl) (by first | omega | (simp <;> omega)) ?_; intro v9 w9 hown9 hg9 hat9; obtain ⟨a9, n9, c9, rfl⟩ := osl_slice hown9; have HX9 := Lib.hid (show Ext w w9 from ext_grow (ext_trans HX.out extA) hg9 (fun j hj => (HOL.out j hj).1)); have HV9 := Lib.hid hown9)))
      go_roundw
      case rel => exact ⟨k + 1, by omega, by go_num, Lib.hid (by rw [hsn]; exact HV9.out), HX9⟩
      case measure => simp [intOf]; omega
    · obtain rfl : k = l.length := by omega
      have HF := Lib.hid (show OSl RRn 3 61 w.heap.size (fun _ => True) wr (.slice a6 l.length c6) (l.map (·.run)) by have := HO.out; rw [hml] at this; rwa [List.take_of_length_le (Nat.le_refl _)] at this)
      go_wp2
      go_ret
      exact ⟨_, rfl, osl_rsl gRn HF.out (fun _ _ _ => trivial) (fun _ _ => trivial), HX.out⟩
end Go.Proofs.YtfgfdohppgoajaaGreat
