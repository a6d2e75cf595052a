/- Carets: a place of a mark. -/
import Derived.Test.YthkhkbjkbpgaoaaA7
set_option linter.unusedVariables false
set_option linter.unusedSimpArgs false
namespace Go.Proofs.Ythkhkbjkbpgaoaa
open Go Go.RowKit Go.BigFrame Cp

def IsTwo (x y : Int) (w : World) (e : Ending) (w' : World) : Prop := e = .returned (.tuple #[.int .i64 x, .int .i64 y]) ∧ Ext w w'
set_option maxRecDepth 100000 in
set_option maxHeartbeats 4000000 in
theorem atCaret_any {F G : Nat → Prop} {w : World} {cs ds : List Value} {s : St} {m : Mk} (h : RSt F w cs s) (hm : RMk G w ds m) :
    Calls Try.prog 23 #[.agg cs.toArray, .agg ds.toArray] w (IsTwo (caretAt s m).1 (caretAt s m).2 w) := by
  have HC := Lib.hid (fun (W : World) (hx : Ext w W) => checkStateP_any (gSt.ext h hx))
  have HN := Lib.hid (fun (W : World) (hx : Ext w W) => noneP_any (gMk.ext hm hx))
  have HK := Lib.hid (fun (W : World) (hx : Ext w W) => check_any (gMk.ext hm hx))
  have HMX := Lib.hid (fun (W : World) (hx : Ext w W) => gMk.ext hm hx)
  obtain ⟨va, vg, rfl, ha, hg⟩ := h
  obtain ⟨u, rfl, hmm, _⟩ := hm
  obtain ⟨la, lg⟩ := s
  obtain ⟨m, d⟩ := m
  simp only at ha hg hmm HC HN HK HMX ⊢
  have HA := Lib.hid (fun (W : World) (hx : Ext w W) => ha.ext gAt hx)
  obtain ⟨a0, n0, c0, rfl⟩ := ha.slice
  obtain ⟨rfl, _, _⟩ := ha.len
  obtain ⟨a1, n1, c1, rfl⟩ := hg.slice
  obtain ⟨rfl, _, _⟩ := hg.len
  obtain ⟨a2, n2, c2, rfl⟩ := hmm.slice
  clear ha hg hmm
  by_cases h0 : checkS (la, lg) = 0
  · have HOK := Lib.hid (checkA_ok (checkS_atomsOk h0))
    rw [h0] at HC
    cases hn : noneM (m, d) with
    | true =>
      rw [caretAt_none h0 hn]
      rw [hn] at HN
      clear h0
      go_enter Try.func23, Try.ntmps23
      go_wp2_with (first
        | (go_at_call 56; go_must ((with_reducible refine (HC.out _ (by repeat (first | (with_reducible exact ext_refl _) | (with_reducible assumption) | (with_reducible refine ext_drew ?_) | (with_reducible refine ext_drewN ?_ _) | (with_reducible refine ext_alloc ?_ _) | (with_reducible refine ext_set ?_ (by first | omega | (simp <;> omega)) _) | (with_reducible refine ext_trans ?_ (by with_reducible assumption))))).mono ?_); rintro e w1 ⟨rfl, hx1⟩; have r0 := (hx1.cells (w.heap.size) (0) (by first | omega | (simp <;> omega))).trans (show _ = some (.slice a0 la.length c0) by first | assumption | go_simp); have r1 := (hx1.cells (w.heap.size) (1) (by first | omega | (simp <;> omega))).trans (show _ = some (.slice a1 lg.length c1) by first | assumption | go_simp); have r2 := (hx1.cells (w.heap.size + 1) (0) (by first | omega | (simp <;> omega))).trans (show _ = some (.slice a2 n2 c2) by first | assumption | go_simp); have r3 := (hx1.cells (w.heap.size + 1) (1) (by first | omega | (simp <;> omega))).trans (show _ = some (.int .i64 d) by first | assumption | go_simp); have hz1 := hx1.size; (try simp at hz1); have hb1_0 : w.heap.size < w1.heap.size := (by omega); have hb1_1 : w.heap.size + 1 < w1.heap.size := (by omega)))
        | (go_at_call 58; go_must ((with_reducible refine (HN.out _ (by repeat (first | (with_reducible exact ext_refl _) | (with_reducible assumption) | (with_reducible refine ext_drew ?_) | (with_reducible refine ext_drewN ?_ _) | (with_reducible refine ext_alloc ?_ _) | (with_reducible refine ext_set ?_ (by first | omega | (simp <;> omega)) _) | (with_reducible refine ext_trans ?_ (by with_reducible assumption))))).mono ?_); rintro e w2 ⟨rfl, hx2⟩; have s0 := (hx2.cells (w.heap.size) (0) (by first | omega | (simp <;> omega))).trans (show _ = some (.slice a0 la.length c0) by first | assumption | go_simp); have s1 := (hx2.cells (w.heap.size) (1) (by first | omega | (simp <;> omega))).trans (show _ = some (.slice a1 lg.length c1) by first | assumption | go_simp); have s2 := (hx2.cells (w.heap.size + 1) (0) (by first | omega | (simp <;> omega))).trans (show _ = some (.slice a2 n2 c2) by first | assumption | go_simp); have s3 := (hx2.cells (w.heap.size + 1) (1) (by first | omega | (simp <;> omega))).trans (show _ = some (.int .i64 d) by first | assumption | go_simp); have hz2 := hx2.size; (try simp at hz2); have hb2_0 : w.heap.size < w2.heap.size := (by omega); have hb2_1 : w.heap.size + 1 < w2.heap.size := (by omega))))
      refine bodyPost_ret (v := .tuple #[.int .i64 0, .int .i64 0]) (by simp [results, Try.results23, go_sem]) rfl ⟨rfl, (by repeat (first | (with_reducible exact ext_refl _) | (with_reducible assumption) | (with_reducible refine ext_drew ?_) | (with_reducible refine ext_drewN ?_ _) | (with_reducible refine ext_alloc ?_ _) | (with_reducible refine ext_set ?_ (by first | omega | (simp <;> omega)) _) | (with_reducible refine ext_trans ?_ (by with_reducible assumption))))⟩
    | false =>
      rw [hn] at HN
      by_cases h1 : checkM (m, d) = 0
      · rw [caretAt_ok h0 hn h1]
        rw [h1] at HK
        have hl3 : la.length ≤ 300 := HOK.out.1
        have HF := Lib.hid (fun (W : World) (hx : Ext w W) => findA_any (HA.out W hx) (HMX.out W hx) HOK.out.2.1 (by omega))
        have hpl := placeA_le la (m, d)
        clear h0 h1
        simp only
        generalize placeA la (m, d) = pl at *
        generalize hasM la (m, d) = hs at *
        cases hs with
        | true =>
          go_enter Try.func23, Try.ntmps23
          go_wp2_with (first
            | (go_at_call 56; go_must ((with_reducible refine (HC.out _ (by repeat (first | (with_reducible exact ext_refl _) | (with_reducible assumption) | (with_reducible refine ext_drew ?_) | (with_reducible refine ext_drewN ?_ _) | (with_reducible refine ext_alloc ?_ _) | (with_reducible refine ext_set ?_ (by first | omega | (simp <;> omega)) _) | (with_reducible refine ext_trans ?_ (by with_reducible assumption))))).mono ?_); rintro e w1 ⟨rfl, hx1⟩; have r0 := (hx1.cells (w.heap.size) (0) (by first | omega | (simp <;> omega))).trans (show _ = some (.slice a0 la.length c0) by first | assumption | go_simp); have r1 := (hx1.cells (w.heap.size) (1) (by first | omega | (simp <;> omega))).trans (show _ = some (.slice a1 lg.length c1) by first | assumption | go_simp); have r2 := (hx1.cells (w.heap.size + 1) (0) (by first | omega | (simp <;> omega))).trans (show _ = some (.slice a2 n2 c2) by first | assumption | go_simp); have r3 := (hx1.cells (w.heap.size + 1) (1) (by first | omega | (simp <;> omega))).trans (show _ = some (.int .i64 d) by first | assumption | go_simp); have hz1 := hx1.size; (try simp at hz1); have hb1_0 : w.heap.size < w1.heap.size := (by omega); have hb1_1 : w.heap.size + 1 < w1.heap.size := (by omega)))
            | (go_at_call 58; go_must ((with_reducible refine (HN.out _ (by repeat (first | (with_reducible exact ext_refl _) | (with_reducible assumption) | (with_reducible refine ext_drew ?_) | (with_reducible refine ext_drewN ?_ _) | (with_reducible refine ext_alloc ?_ _) | (with_reducible refine ext_set ?_ (by first | omega | (simp <;> omega)) _) | (with_reducible refine ext_trans ?_ (by with_reducible assumption))))).mono ?_); rintro e w2 ⟨rfl, hx2⟩; have s0 := (hx2.cells (w.heap.size) (0) (by first | omega | (simp <;> omega))).trans (show _ = some (.slice a0 la.length c0) by first | assumption | go_simp); have s1 := (hx2.cells (w.heap.size) (1) (by first | omega | (simp <;> omega))).trans (show _ = some (.slice a1 lg.length c1) by first | assumption | go_simp); have s2 := (hx2.cells (w.heap.size + 1) (0) (by first | omega | (simp <;> omega))).trans (show _ = some (.slice a2 n2 c2) by first | assumption | go_simp); have s3 := (hx2.cells (w.heap.size + 1) (1) (by first | omega | (simp <;> omega))).trans (show _ = some (.int .i64 d) by first | assumption | go_simp); have hz2 := hx2.size; (try simp at hz2); have hb2_0 : w.heap.size < w2.heap.size := (by omega); have hb2_1 : w.heap.size + 1 < w2.heap.size := (by omega)))
            | (go_at_call 33; go_must ((with_reducible refine (HK.out _ (by repeat (first | (with_reducible exact ext_refl _) | (with_reducible assumption) | (with_reducible refine ext_drew ?_) | (with_reducible refine ext_drewN ?_ _) | (with_reducible refine ext_alloc ?_ _) | (with_reducible refine ext_set ?_ (by first | omega | (simp <;> omega)) _) | (with_reducible refine ext_trans ?_ (by with_reducible assumption))))).mono ?_); rintro e w3 ⟨rfl, hx3⟩; have q0 := (hx3.cells (w.heap.size) (0) (by first | omega | (simp <;> omega))).trans (show _ = some (.slice a0 la.length c0) by first | assumption | go_simp); have q1 := (hx3.cells (w.heap.size) (1) (by first | omega | (simp <;> omega))).trans (show _ = some (.slice a1 lg.length c1) by first | assumption | go_simp); have q2 := (hx3.cells (w.heap.size + 1) (0) (by first | omega | (simp <;> omega))).trans (show _ = some (.slice a2 n2 c2) by first | assumption | go_simp); have q3 := (hx3.cells (w.heap.size + 1) (1) (by first | omega | (simp <;> omega))).trans (show _ = some (.int .i64 d) by first | assumption | go_simp); have hz3 := hx3.size; (try simp at hz3); have hb3_0 : w.heap.size < w3.heap.size := (by omega); have hb3_1 : w.heap.size + 1 < w3.heap.size := (by omega)))
            | (go_at_call 59; go_must ((with_reducible refine (HF.out _ (by repeat (first | (with_reducible exact ext_refl _) | (with_reducible assumption) | (with_reducible refine ext_drew ?_) | (with_reducible refine ext_drewN ?_ _) | (with_reducible refine ext_alloc ?_ _) | (with_reducible refine ext_set ?_ (by first | omega | (simp <;> omega)) _) | (with_reducible refine ext_trans ?_ (by with_reducible assumption))))).mono ?_); rintro e w4 ⟨rfl, hx4⟩)))
          refine bodyPost_ret (v := .tuple #[.int .i64 ((pl + 1 : Nat) : Int), .int .i64 0]) (by simp [results, Try.results23, go_sem]) rfl ⟨rfl, (by repeat (first | (with_reducible exact ext_refl _) | (with_reducible assumption) | (with_reducible refine ext_drew ?_) | (with_reducible refine ext_drewN ?_ _) | (with_reducible refine ext_alloc ?_ _) | (with_reducible refine ext_set ?_ (by first | omega | (simp <;> omega)) _) | (with_reducible refine ext_trans ?_ (by with_reducible assumption))))⟩
        | false =>
          go_enter Try.func23, Try.ntmps23
          go_wp2_with (first
            | (go_at_call 56; go_must ((with_reducible refine (HC.out _ (by repeat (first | (with_reducible exact ext_refl _) | (with_reducible assumption) | (with_reducible refine ext_drew ?_) | (with_reducible refine ext_drewN ?_ _) | (with_reducible refine ext_alloc ?_ _) | (with_reducible refine ext_set ?_ (by first | omega | (simp <;> omega)) _) | (with_reducible refine ext_trans ?_ (by with_reducible assumption))))).mono ?_); rintro e w1 ⟨rfl, hx1⟩; have r0 := (hx1.cells (w.heap.size) (0) (by first | omega | (simp <;> omega))).trans (show _ = some (.slice a0 la.length c0) by first | assumption | go_simp); have r1 := (hx1.cells (w.heap.size) (1) (by first | omega | (simp <;> omega))).trans (show _ = some (.slice a1 lg.length c1) by first | assumption | go_simp); have r2 := (hx1.cells (w.heap.size + 1) (0) (by first | omega | (simp <;> omega))).trans (show _ = some (.slice a2 n2 c2) by first | assumption | go_simp); have r3 := (hx1.cells (w.heap.size + 1) (1) (by first | omega | (simp <;> omega))).trans (show _ = some (.int .i64 d) by first | assumption | go_simp); have hz1 := hx1.size; (try simp at hz1); have hb1_0 : w.heap.size < w1.heap.size := (by omega); have hb1_1 : w.heap.size + 1 < w1.heap.size := (by omega)))
            | (go_at_call 58; go_must ((with_reducible refine (HN.out _ (by repeat (first | (with_reducible exact ext_refl _) | (with_reducible assumption) | (with_reducible refine ext_drew ?_) | (with_reducible refine ext_drewN ?_ _) | (with_reducible refine ext_alloc ?_ _) | (with_reducible refine ext_set ?_ (by first | omega | (simp <;> omega)) _) | (with_reducible refine ext_trans ?_ (by with_reducible assumption))))).mono ?_); rintro e w2 ⟨rfl, hx2⟩; have s0 := (hx2.cells (w.heap.size) (0) (by first | omega | (simp <;> omega))).trans (show _ = some (.slice a0 la.length c0) by first | assumption | go_simp); have s1 := (hx2.cells (w.heap.size) (1) (by first | omega | (simp <;> omega))).trans (show _ = some (.slice a1 lg.length c1) by first | assumption | go_simp); have s2 := (hx2.cells (w.heap.size + 1) (0) (by first | omega | (simp <;> omega))).trans (show _ = some (.slice a2 n2 c2) by first | assumption | go_simp); have s3 := (hx2.cells (w.heap.size + 1) (1) (by first | omega | (simp <;> omega))).trans (show _ = some (.int .i64 d) by first | assumption | go_simp); have hz2 := hx2.size; (try simp at hz2); have hb2_0 : w.heap.size < w2.heap.size := (by omega); have hb2_1 : w.heap.size + 1 < w2.heap.size := (by omega)))
            | (go_at_call 33; go_must ((with_reducible refine (HK.out _ (by repeat (first | (with_reducible exact ext_refl _) | (with_reducible assumption) | (with_reducible refine ext_drew ?_) | (with_reducible refine ext_drewN ?_ _) | (with_reducible refine ext_alloc ?_ _) | (with_reducible refine ext_set ?_ (by first | omega | (simp <;> omega)) _) | (with_reducible refine ext_trans ?_ (by with_reducible assumption))))).mono ?_); rintro e w3 ⟨rfl, hx3⟩; have q0 := (hx3.cells (w.heap.size) (0) (by first | omega | (simp <;> omega))).trans (show _ = some (.slice a0 la.length c0) by first | assumption | go_simp); have q1 := (hx3.cells (w.heap.size) (1) (by first | omega | (simp <;> omega))).trans (show _ = some (.slice a1 lg.length c1) by first | assumption | go_simp); have q2 := (hx3.cells (w.heap.size + 1) (0) (by first | omega | (simp <;> omega))).trans (show _ = some (.slice a2 n2 c2) by first | assumption | go_simp); have q3 := (hx3.cells (w.heap.size + 1) (1) (by first | omega | (simp <;> omega))).trans (show _ = some (.int .i64 d) by first | assumption | go_simp); have hz3 := hx3.size; (try simp at hz3); have hb3_0 : w.heap.size < w3.heap.size := (by omega); have hb3_1 : w.heap.size + 1 < w3.heap.size := (by omega)))
            | (go_at_call 59; go_must ((with_reducible refine (HF.out _ (by repeat (first | (with_reducible exact ext_refl _) | (with_reducible assumption) | (with_reducible refine ext_drew ?_) | (with_reducible refine ext_drewN ?_ _) | (with_reducible refine ext_alloc ?_ _) | (with_reducible refine ext_set ?_ (by first | omega | (simp <;> omega)) _) | (with_reducible refine ext_trans ?_ (by with_reducible assumption))))).mono ?_); rintro e w4 ⟨rfl, hx4⟩)))
          refine bodyPost_ret (v := .tuple #[.int .i64 (pl : Int), .int .i64 0]) (by simp [results, Try.results23, go_sem]) rfl ⟨rfl, (by repeat (first | (with_reducible exact ext_refl _) | (with_reducible assumption) | (with_reducible refine ext_drew ?_) | (with_reducible refine ext_drewN ?_ _) | (with_reducible refine ext_alloc ?_ _) | (with_reducible refine ext_set ?_ (by first | omega | (simp <;> omega)) _) | (with_reducible refine ext_trans ?_ (by with_reducible assumption))))⟩
      · rw [caretAt_mark h0 hn h1]
        have t1 : (checkM (m, d) != 0) = true := by simpa using h1
        generalize checkM (m, d) = r at *
        clear h0 h1
        go_enter Try.func23, Try.ntmps23
        go_wp2_with (first
            | (go_at_call 56; go_must ((with_reducible refine (HC.out _ (by repeat (first | (with_reducible exact ext_refl _) | (with_reducible assumption) | (with_reducible refine ext_drew ?_) | (with_reducible refine ext_drewN ?_ _) | (with_reducible refine ext_alloc ?_ _) | (with_reducible refine ext_set ?_ (by first | omega | (simp <;> omega)) _) | (with_reducible refine ext_trans ?_ (by with_reducible assumption))))).mono ?_); rintro e w1 ⟨rfl, hx1⟩; have r0 := (hx1.cells (w.heap.size) (0) (by first | omega | (simp <;> omega))).trans (show _ = some (.slice a0 la.length c0) by first | assumption | go_simp); have r1 := (hx1.cells (w.heap.size) (1) (by first | omega | (simp <;> omega))).trans (show _ = some (.slice a1 lg.length c1) by first | assumption | go_simp); have r2 := (hx1.cells (w.heap.size + 1) (0) (by first | omega | (simp <;> omega))).trans (show _ = some (.slice a2 n2 c2) by first | assumption | go_simp); have r3 := (hx1.cells (w.heap.size + 1) (1) (by first | omega | (simp <;> omega))).trans (show _ = some (.int .i64 d) by first | assumption | go_simp); have hz1 := hx1.size; (try simp at hz1); have hb1_0 : w.heap.size < w1.heap.size := (by omega); have hb1_1 : w.heap.size + 1 < w1.heap.size := (by omega)))
            | (go_at_call 58; go_must ((with_reducible refine (HN.out _ (by repeat (first | (with_reducible exact ext_refl _) | (with_reducible assumption) | (with_reducible refine ext_drew ?_) | (with_reducible refine ext_drewN ?_ _) | (with_reducible refine ext_alloc ?_ _) | (with_reducible refine ext_set ?_ (by first | omega | (simp <;> omega)) _) | (with_reducible refine ext_trans ?_ (by with_reducible assumption))))).mono ?_); rintro e w2 ⟨rfl, hx2⟩; have s0 := (hx2.cells (w.heap.size) (0) (by first | omega | (simp <;> omega))).trans (show _ = some (.slice a0 la.length c0) by first | assumption | go_simp); have s1 := (hx2.cells (w.heap.size) (1) (by first | omega | (simp <;> omega))).trans (show _ = some (.slice a1 lg.length c1) by first | assumption | go_simp); have s2 := (hx2.cells (w.heap.size + 1) (0) (by first | omega | (simp <;> omega))).trans (show _ = some (.slice a2 n2 c2) by first | assumption | go_simp); have s3 := (hx2.cells (w.heap.size + 1) (1) (by first | omega | (simp <;> omega))).trans (show _ = some (.int .i64 d) by first | assumption | go_simp); have hz2 := hx2.size; (try simp at hz2); have hb2_0 : w.heap.size < w2.heap.size := (by omega); have hb2_1 : w.heap.size + 1 < w2.heap.size := (by omega)))
            | (go_at_call 33; go_must ((with_reducible refine (HK.out _ (by repeat (first | (with_reducible exact ext_refl _) | (with_reducible assumption) | (with_reducible refine ext_drew ?_) | (with_reducible refine ext_drewN ?_ _) | (with_reducible refine ext_alloc ?_ _) | (with_reducible refine ext_set ?_ (by first | omega | (simp <;> omega)) _) | (with_reducible refine ext_trans ?_ (by with_reducible assumption))))).mono ?_); rintro e w3 ⟨rfl, hx3⟩; have q0 := (hx3.cells (w.heap.size) (0) (by first | omega | (simp <;> omega))).trans (show _ = some (.slice a0 la.length c0) by first | assumption | go_simp); have q1 := (hx3.cells (w.heap.size) (1) (by first | omega | (simp <;> omega))).trans (show _ = some (.slice a1 lg.length c1) by first | assumption | go_simp); have q2 := (hx3.cells (w.heap.size + 1) (0) (by first | omega | (simp <;> omega))).trans (show _ = some (.slice a2 n2 c2) by first | assumption | go_simp); have q3 := (hx3.cells (w.heap.size + 1) (1) (by first | omega | (simp <;> omega))).trans (show _ = some (.int .i64 d) by first | assumption | go_simp); have hz3 := hx3.size; (try simp at hz3); have hb3_0 : w.heap.size < w3.heap.size := (by omega); have hb3_1 : w.heap.size + 1 < w3.heap.size := (by omega))))
        refine bodyPost_ret (v := .tuple #[.int .i64 0, .int .i64 r]) (by simp [results, Try.results23, go_sem]) rfl ⟨rfl, (by repeat (first | (with_reducible exact ext_refl _) | (with_reducible assumption) | (with_reducible refine ext_drew ?_) | (with_reducible refine ext_drewN ?_ _) | (with_reducible refine ext_alloc ?_ _) | (with_reducible refine ext_set ?_ (by first | omega | (simp <;> omega)) _) | (with_reducible refine ext_trans ?_ (by with_reducible assumption))))⟩
  · rw [caretAt_bad h0]
    have t1 : (checkS (la, lg) != 0) = true := by simpa using h0
    generalize checkS (la, lg) = r at *
    clear h0
    go_enter Try.func23, Try.ntmps23
    go_wp2_with (go_at_call 56; go_must ((with_reducible refine (HC.out _ (by repeat (first | (with_reducible exact ext_refl _) | (with_reducible assumption) | (with_reducible refine ext_drew ?_) | (with_reducible refine ext_drewN ?_ _) | (with_reducible refine ext_alloc ?_ _) | (with_reducible refine ext_set ?_ (by first | omega | (simp <;> omega)) _) | (with_reducible refine ext_trans ?_ (by with_reducible assumption))))).mono ?_); rintro e w1 ⟨rfl, hx1⟩; have r0 := (hx1.cells (w.heap.size) (0) (by first | omega | (simp <;> omega))).trans (show _ = some (.slice a0 la.length c0) by first | assumption | go_simp); have r1 := (hx1.cells (w.heap.size) (1) (by first | omega | (simp <;> omega))).trans (show _ = some (.slice a1 lg.length c1) by first | assumption | go_simp); have r2 := (hx1.cells (w.heap.size + 1) (0) (by first | omega | (simp <;> omega))).trans (show _ = some (.slice a2 n2 c2) by first | assumption | go_simp); have r3 := (hx1.cells (w.heap.size + 1) (1) (by first | omega | (simp <;> omega))).trans (show _ = some (.int .i64 d) by first | assumption | go_simp); have hz1 := hx1.size; (try simp at hz1); have hb1_0 : w.heap.size < w1.heap.size := (by omega); have hb1_1 : w.heap.size + 1 < w1.heap.size := (by omega)))
    refine bodyPost_ret (v := .tuple #[.int .i64 0, .int .i64 r]) (by simp [results, Try.results23, go_sem]) rfl ⟨rfl, (by repeat (first | (with_reducible exact ext_refl _) | (with_reducible assumption) | (with_reducible refine ext_drew ?_) | (with_reducible refine ext_drewN ?_ _) | (with_reducible refine ext_alloc ?_ _) | (with_reducible refine ext_set ?_ (by first | omega | (simp <;> omega)) _) | (with_reducible refine ext_trans ?_ (by with_reducible assumption))))⟩

set_option maxRecDepth 100000 in
set_option maxHeartbeats 4000000 in
theorem caretAtR_any {F G : Nat → Prop} {w : World} {cs ds : List Value} {s : St} {m : Mk} (h : RSt F w cs s) (hm : RMk G w ds m) (hs : SortedA s.1) (hl3 : s.1.length ≤ 300) :
    Calls Try.prog 27 #[.agg cs.toArray, .agg ds.toArray] w fun e w' => e = .returned (.int .i64 (caretN s.1 m : Nat)) ∧ Ext w w' := by
  have HN := Lib.hid (fun (W : World) (hx : Ext w W) => none_any (gMk.ext hm hx))
  have HMX := Lib.hid (fun (W : World) (hx : Ext w W) => gMk.ext hm hx)
  obtain ⟨va, vg, rfl, ha, hg⟩ := h
  obtain ⟨u, rfl, hmm, _⟩ := hm
  obtain ⟨la, lg⟩ := s
  obtain ⟨m, d⟩ := m
  simp only at ha hg hmm HN HMX hs hl3 ⊢
  have HA := Lib.hid (fun (W : World) (hx : Ext w W) => ha.ext gAt hx)
  obtain ⟨a0, n0, c0, rfl⟩ := ha.slice
  obtain ⟨rfl, _, _⟩ := ha.len
  obtain ⟨a1, n1, c1, rfl⟩ := hg.slice
  obtain ⟨rfl, _, _⟩ := hg.len
  obtain ⟨a2, n2, c2, rfl⟩ := hmm.slice
  clear ha hg hmm
  obtain ⟨pr, hpr⟩ : ∃ pr : At → Bool, pr = fun a => !noneM (m, d) && decide (ordM a.1 (m, d) ≤ 0) := ⟨_, rfl⟩
  have hN : caretN la (m, d) = la.countP pr := by
    cases hn : noneM (m, d) with
    | true => unfold caretN; rw [if_pos hn, hpr, hn]; simp
    | false => rw [caretN_count hs hn, hpr, hn]; simp
  rw [hN]
  have HPR := Lib.hid (fun (a : At) => (show pr a = (!noneM (m, d) && decide (ordM a.1 (m, d) ≤ 0)) by rw [hpr]))
  clear hN hpr hs
  generalize hnn : noneM (m, d) = nn at *
  clear hnn
  go_enter Try.func27, Try.ntmps27
  go_wp2
  go_loopw [5, 6] (fun cv iv wr => ∃ k : Nat, k ≤ la.length ∧ iv = .int .i64 k ∧ cv = .int .i64 ((la.take k).countP pr : Nat) ∧ Ext ((w.alloc (.cells #[.slice a0 la.length c0, .slice a1 lg.length c1] 40)).alloc (.cells #[.slice a2 n2 c2, .int .i64 d] 43)) wr) (fun _ iv _ => la.length - (intOf iv).toNat)
  case atStart => exact ⟨0, Nat.zero_le _, rfl, by simp, ext_refl _⟩
  case round =>
    obtain ⟨k, hk, rfl, rfl, hx⟩ := hrel
    have hw : Ext w wr := ext_trans (ext_alloc (ext_alloc (ext_refl _) _) _) hx
    have z0 : wr.cell? ⟨w.heap.size, 0, none⟩ = some (.slice a0 la.length c0) := (hx.cells _ _ (by simp <;> omega)).trans (by go_simp)
    have z1 : wr.cell? ⟨w.heap.size, 1, none⟩ = some (.slice a1 lg.length c1) := (hx.cells _ _ (by simp <;> omega)).trans (by go_simp)
    have z2 : wr.cell? ⟨w.heap.size + 1, 0, none⟩ = some (.slice a2 n2 c2) := (hx.cells _ _ (by simp <;> omega)).trans (by go_simp)
    have z3 : wr.cell? ⟨w.heap.size + 1, 1, none⟩ = some (.int .i64 d) := (hx.cells _ _ (by simp <;> omega)).trans (by go_simp)
    have hsz := hx.size
    (try simp at hsz)
    have hbz : w.heap.size < wr.heap.size := by omega
    have hbz2 : w.heap.size + 1 < wr.heap.size := by omega
    have hct : (la.take k).countP pr ≤ k := countP_take_le
    have HX := Lib.hid hx
    have HW := Lib.hid hw
    clear hx hw
    by_cases hlt : k < la.length
    · obtain ⟨b, o, p, c, s, ap, cp, rfl, hb, ek, ick, hpp, y0, y1, y2⟩ := atm_at (HA.out _ HW.out) hlt
      have HCM := Lib.hid (fun (W : World) (hx : Ext wr W) => orderOf_any (rmk_of' (hpp.ext gStp hx) ick) (HMX.out W (ext_trans HW.out hx)))
      have HNN := Lib.hid (fun (W : World) (hx : Ext wr W) => HN.out W (ext_trans HW.out hx))
      have HA1 := Lib.hid (countP_step (p := pr) ek)
      have HPK := HPR.out ((p, c), s)
      clear hpp ick ek
      simp only at HPK HA1
      cases nn with
      | true =>
        have HP0 := Lib.hid (show pr ((p, c), s) = false by rw [HPK]; rfl)
        clear HPK
        go_wp2_with fail
        refine wp_name (fun W2 eW2 => ?_)
        have e0 : W2.cell? ⟨w.heap.size, 0, none⟩ = some (.slice (some ⟨b, o, none⟩) la.length c0) := by rw [eW2]; go_simp
        have e1 : W2.cell? ⟨w.heap.size, 1, none⟩ = some (.slice a1 lg.length c1) := by rw [eW2]; go_simp
        have e2 : W2.cell? ⟨w.heap.size + 1, 0, none⟩ = some (.slice a2 n2 c2) := by rw [eW2]; go_simp
        have e3 : W2.cell? ⟨w.heap.size + 1, 1, none⟩ = some (.int .i64 d) := by rw [eW2]; go_simp
        have e4 : W2.cell? ⟨b, o + k * 3, none⟩ = some (.slice ap p.length cp) := by rw [eW2]; go_simp
        have e5 : W2.cell? ⟨b, o + k * 3 + 1, none⟩ = some (.int .i64 c) := by rw [eW2]; go_simp
        have e6 : W2.cell? ⟨b, o + k * 3 + 2, none⟩ = some (.int .u8 s.toNat) := by rw [eW2]; go_simp
        have zW2_0 : w.heap.size < W2.heap.size := by rw [eW2]; first | assumption | omega | (simp <;> omega)
        have zW2_1 : w.heap.size + 1 < W2.heap.size := by rw [eW2]; first | assumption | omega | (simp <;> omega)
        have zW2_2 : b < W2.heap.size := by rw [eW2]; first | assumption | omega | (simp <;> omega)
        have hw2 : Ext wr W2 := by rw [eW2]; exact (by repeat (first | (with_reducible exact ext_refl _) | (with_reducible assumption) | (with_reducible refine ext_drew ?_) | (with_reducible refine ext_drewN ?_ _) | (with_reducible refine ext_alloc ?_ _) | (with_reducible refine ext_set ?_ (by first | omega | (simp <;> omega)) _) | (with_reducible refine ext_trans ?_ (by with_reducible assumption))))
        clear eW2
        refine wp_region_later fol (by kernel_rfl) (fun hlater => ?_)
        repeat (go_big_quiet_step ((first
            | (go_at_call 25; (with_reducible exact later_of (HNN.out _ (ext_trans hw2 (Later.ext _))))))))
        refine wpQuiet_nil ?_
        rintro w3 ⟨⟨w3x, hx3⟩, rfl⟩
        clear hlater
        go_wp2_with fail
        go_roundw
        case rel => exact ⟨k + 1, by omega, by go_num, by rw [HA1.out, HP0.out]; simp, ext_trans HX.out (ext_trans hw2 hx3)⟩
        case measure => simp [intOf]; omega
      | false =>
        by_cases g : ordM (p, c) (m, d) ≤ 0
        · have t5 : decide (ordM (p, c) (m, d) ≤ 0) = true := decide_eq_true g
          have HP0 := Lib.hid (show pr ((p, c), s) = true by rw [HPK, t5]; rfl)
          clear HPK g
          generalize ordM (p, c) (m, d) = od at *
          go_wp2_with fail
          refine wp_name (fun W2 eW2 => ?_)
          have e0 : W2.cell? ⟨w.heap.size, 0, none⟩ = some (.slice (some ⟨b, o, none⟩) la.length c0) := by rw [eW2]; go_simp
          have e1 : W2.cell? ⟨w.heap.size, 1, none⟩ = some (.slice a1 lg.length c1) := by rw [eW2]; go_simp
          have e2 : W2.cell? ⟨w.heap.size + 1, 0, none⟩ = some (.slice a2 n2 c2) := by rw [eW2]; go_simp
          have e3 : W2.cell? ⟨w.heap.size + 1, 1, none⟩ = some (.int .i64 d) := by rw [eW2]; go_simp
          have e4 : W2.cell? ⟨b, o + k * 3, none⟩ = some (.slice ap p.length cp) := by rw [eW2]; go_simp
          have e5 : W2.cell? ⟨b, o + k * 3 + 1, none⟩ = some (.int .i64 c) := by rw [eW2]; go_simp
          have e6 : W2.cell? ⟨b, o + k * 3 + 2, none⟩ = some (.int .u8 s.toNat) := by rw [eW2]; go_simp
          have zW2_0 : w.heap.size < W2.heap.size := by rw [eW2]; first | assumption | omega | (simp <;> omega)
          have zW2_1 : w.heap.size + 1 < W2.heap.size := by rw [eW2]; first | assumption | omega | (simp <;> omega)
          have zW2_2 : b < W2.heap.size := by rw [eW2]; first | assumption | omega | (simp <;> omega)
          have hw2 : Ext wr W2 := by rw [eW2]; exact (by repeat (first | (with_reducible exact ext_refl _) | (with_reducible assumption) | (with_reducible refine ext_drew ?_) | (with_reducible refine ext_drewN ?_ _) | (with_reducible refine ext_alloc ?_ _) | (with_reducible refine ext_set ?_ (by first | omega | (simp <;> omega)) _) | (with_reducible refine ext_trans ?_ (by with_reducible assumption))))
          clear eW2
          refine wp_region_later fol (by kernel_rfl) (fun hlater => ?_)
          repeat (go_big_quiet_step ((first
              | (go_at_call 25; (with_reducible exact later_of (HNN.out _ (ext_trans hw2 (Later.ext _)))))
              | (go_at_call 35; (with_reducible exact later_of (HCM.out _ (ext_trans hw2 (Later.ext _))))))))
          refine wpQuiet_nil ?_
          rintro w3 ⟨⟨w3x, hx3⟩, rfl⟩
          clear hlater
          go_wp2_with fail
          go_roundw
          case rel => exact ⟨k + 1, by omega, by go_num, by rw [HA1.out, HP0.out]; simp, ext_trans HX.out (ext_trans hw2 hx3)⟩
          case measure => simp [intOf]; omega
        · have t5 : decide (ordM (p, c) (m, d) ≤ 0) = false := decide_eq_false g
          have HP0 := Lib.hid (show pr ((p, c), s) = false by rw [HPK, t5]; rfl)
          clear HPK g
          generalize ordM (p, c) (m, d) = od at *
          go_wp2_with fail
          refine wp_name (fun W2 eW2 => ?_)
          have e0 : W2.cell? ⟨w.heap.size, 0, none⟩ = some (.slice (some ⟨b, o, none⟩) la.length c0) := by rw [eW2]; go_simp
          have e1 : W2.cell? ⟨w.heap.size, 1, none⟩ = some (.slice a1 lg.length c1) := by rw [eW2]; go_simp
          have e2 : W2.cell? ⟨w.heap.size + 1, 0, none⟩ = some (.slice a2 n2 c2) := by rw [eW2]; go_simp
          have e3 : W2.cell? ⟨w.heap.size + 1, 1, none⟩ = some (.int .i64 d) := by rw [eW2]; go_simp
          have e4 : W2.cell? ⟨b, o + k * 3, none⟩ = some (.slice ap p.length cp) := by rw [eW2]; go_simp
          have e5 : W2.cell? ⟨b, o + k * 3 + 1, none⟩ = some (.int .i64 c) := by rw [eW2]; go_simp
          have e6 : W2.cell? ⟨b, o + k * 3 + 2, none⟩ = some (.int .u8 s.toNat) := by rw [eW2]; go_simp
          have zW2_0 : w.heap.size < W2.heap.size := by rw [eW2]; first | assumption | omega | (simp <;> omega)
          have zW2_1 : w.heap.size + 1 < W2.heap.size := by rw [eW2]; first | assumption | omega | (simp <;> omega)
          have zW2_2 : b < W2.heap.size := by rw [eW2]; first | assumption | omega | (simp <;> omega)
          have hw2 : Ext wr W2 := by rw [eW2]; exact (by repeat (first | (with_reducible exact ext_refl _) | (with_reducible assumption) | (with_reducible refine ext_drew ?_) | (with_reducible refine ext_drewN ?_ _) | (with_reducible refine ext_alloc ?_ _) | (with_reducible refine ext_set ?_ (by first | omega | (simp <;> omega)) _) | (with_reducible refine ext_trans ?_ (by with_reducible assumption))))
          clear eW2
          refine wp_region_later fol (by kernel_rfl) (fun hlater => ?_)
          repeat (go_big_quiet_step ((first
              | (go_at_call 25; (with_reducible exact later_of (HNN.out _ (ext_trans hw2 (Later.ext _)))))
              | (go_at_call 35; (with_reducible exact later_of (HCM.out _ (ext_trans hw2 (Later.ext _))))))))
          refine wpQuiet_nil ?_
          rintro w3 ⟨⟨w3x, hx3⟩, rfl⟩
          clear hlater
          go_wp2_with fail
          go_roundw
          case rel => exact ⟨k + 1, by omega, by go_num, by rw [HA1.out, HP0.out]; simp, ext_trans HX.out (ext_trans hw2 hx3)⟩
          case measure => simp [intOf]; omega
    · have hkl : k = la.length := by omega
      subst hkl
      rw [List.take_of_length_le (Nat.le_refl _)]
      go_wp2
      go_ret
      exact ⟨rfl, HW.out⟩
end Go.Proofs.Ythkhkbjkbpgaoaa
