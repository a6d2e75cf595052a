/- What is wrong with a deed, by the document. -/
import Derived.Test.YtfgfdohppgoajaaGreatQ0968510478
import Derived.Test.YtfgfdohppgoajaaGreatQebf1797204
import Derived.Test.YtfgfdohppgoajaaGreatQ5ab4d67304
import Derived.Test.YtfgfdohppgoajaaGreatQ8ebb1f5718
import Derived.Test.YtfgfdohppgoajaaGreatQ474d344618
import Derived.Test.YtfgfdohppgoajaaGreatQa1b06f5163
import Derived.IntWalk
set_option linter.unusedVariables false
set_option linter.unusedSimpArgs false
namespace Go.Proofs.YtfgfdohppgoajaaGreat
open Go Go.RowKit Go.BigFrame Cp

set_option maxRecDepth 100000 in
set_option maxHeartbeats 4000000 in
theorem checkDeed_any {F : Nat → Prop} {w : World} {cs : List Value} {d : De} (h : RDe F w cs d) :
    Calls Tryz.prog 64 #[.agg cs.toArray] w fun e w' => e = .returned (.int .i64 (checkD d)) ∧ Ext w w' := by
  obtain ⟨v, u, x, rfl, hk, hl, hi, hu, hm, hj, hn⟩ := h
  obtain ⟨kd, ⟨⟨l, c⟩, t⟩, ⟨m, e⟩, mn⟩ := d
  simp only at hk hl hi hu hm hj hn ⊢
  obtain ⟨s, rfl, rfl, hs⟩ := tx_bytes hu
  have HR := Lib.hid (fun (W : World) (hx : Ext w W) => checkRun_any (rrn_of (hl.ext gStp hx) hi hu))
  have HK := Lib.hid (fun (W : World) (hx : Ext w W) => checkMark_any (rmk_of' (hm.ext gStp hx) hj))
  have HN1 := Lib.hid (fun (W : World) (hx : Ext w W) => none_any (rmk_of' (hl.ext gStp hx) hi))
  have HN2 := Lib.hid (fun (W : World) (hx : Ext w W) => none_any (rmk_of' (hm.ext gStp hx) hj))
  have HX := Lib.hid (fun (W : World) (hx : Ext w W) => nextOf_any (k := mn - 1) (rmk_of' (hm.ext gStp hx) hj))
  obtain ⟨a1, n1, c1, rfl⟩ := hl.slice
  obtain ⟨a2, n2, c2, rfl⟩ := hm.slice
  obtain ⟨hn1, hn2⟩ := hn
  clear hl hi hu hm hj hk
  by_cases k1 : kd = 1
  · subst k1
    by_cases h0 : checkR ((l, c), s.data.toList) = 0
    · have H0 := Lib.hid h0
      rw [h0] at HR
      clear h0
      cases g : noneM (m, e) with
      | false =>
        rw [checkD_put_form rfl H0.out (.inl g)]
        rw [g] at HN2
        clear HN1 HK
        go_enter Tryz.func64, Tryz.ntmps64
        go_wp2_with (first
          | (go_at_call 111; (with_reducible refine (HR.out _ extA).mono ?_); rintro e' w1 ⟨rfl, hx1⟩; have hz1 := hx1.size; (try simp at hz1); have hb1_0 : w.heap.size < w1.heap.size := (by omega); have p0 := (hx1.cells (w.heap.size) (0) (by first | omega | (simp <;> omega))).trans (show _ = some (.int .i64 1) by first | assumption | go_simp); have p1 := (hx1.cells (w.heap.size) (1) (by first | omega | (simp <;> omega))).trans (show _ = some (.slice a1 n1 c1) by first | assumption | go_simp); have p2 := (hx1.cells (w.heap.size) (2) (by first | omega | (simp <;> omega))).trans (show _ = some (.int .i64 c) by first | assumption | go_simp); have p3 := (hx1.cells (w.heap.size) (3) (by first | omega | (simp <;> omega))).trans (show _ = some (.string s) by first | assumption | go_simp); have p4 := (hx1.cells (w.heap.size) (4) (by first | omega | (simp <;> omega))).trans (show _ = some (.slice a2 n2 c2) by first | assumption | go_simp); have p5 := (hx1.cells (w.heap.size) (5) (by first | omega | (simp <;> omega))).trans (show _ = some (.int .i64 e) by first | assumption | go_simp); have p6 := (hx1.cells (w.heap.size) (6) (by first | omega | (simp <;> omega))).trans (show _ = some (.int .i64 mn) by first | assumption | go_simp))
          | (go_at_call 108; (with_reducible refine (HK.out _ extA).mono ?_); rintro e' w2 ⟨rfl, hx2⟩; have hz2 := hx2.size; (try simp at hz2); have hb2_0 : w.heap.size < w2.heap.size := (by omega); have q0 := (hx2.cells (w.heap.size) (0) (by first | omega | (simp <;> omega))).trans (show _ = some (.int .i64 1) by first | assumption | go_simp); have q1 := (hx2.cells (w.heap.size) (1) (by first | omega | (simp <;> omega))).trans (show _ = some (.slice a1 n1 c1) by first | assumption | go_simp); have q2 := (hx2.cells (w.heap.size) (2) (by first | omega | (simp <;> omega))).trans (show _ = some (.int .i64 c) by first | assumption | go_simp); have q3 := (hx2.cells (w.heap.size) (3) (by first | omega | (simp <;> omega))).trans (show _ = some (.string s) by first | assumption | go_simp); have q4 := (hx2.cells (w.heap.size) (4) (by first | omega | (simp <;> omega))).trans (show _ = some (.slice a2 n2 c2) by first | assumption | go_simp); have q5 := (hx2.cells (w.heap.size) (5) (by first | omega | (simp <;> omega))).trans (show _ = some (.int .i64 e) by first | assumption | go_simp); have q6 := (hx2.cells (w.heap.size) (6) (by first | omega | (simp <;> omega))).trans (show _ = some (.int .i64 mn) by first | assumption | go_simp))
          | (go_at_call 109; (with_reducible refine (HN2.out _ extA).mono ?_); rintro e' w4 ⟨rfl, hx4⟩; have hz4 := hx4.size; (try simp at hz4); have hb4_0 : w.heap.size < w4.heap.size := (by omega); have s0 := (hx4.cells (w.heap.size) (0) (by first | omega | (simp <;> omega))).trans (show _ = some (.int .i64 1) by first | assumption | go_simp); have s1 := (hx4.cells (w.heap.size) (1) (by first | omega | (simp <;> omega))).trans (show _ = some (.slice a1 n1 c1) by first | assumption | go_simp); have s2 := (hx4.cells (w.heap.size) (2) (by first | omega | (simp <;> omega))).trans (show _ = some (.int .i64 c) by first | assumption | go_simp); have s3 := (hx4.cells (w.heap.size) (3) (by first | omega | (simp <;> omega))).trans (show _ = some (.string s) by first | assumption | go_simp); have s4 := (hx4.cells (w.heap.size) (4) (by first | omega | (simp <;> omega))).trans (show _ = some (.slice a2 n2 c2) by first | assumption | go_simp); have s5 := (hx4.cells (w.heap.size) (5) (by first | omega | (simp <;> omega))).trans (show _ = some (.int .i64 e) by first | assumption | go_simp); have s6 := (hx4.cells (w.heap.size) (6) (by first | omega | (simp <;> omega))).trans (show _ = some (.int .i64 mn) by first | assumption | go_simp))
          | (go_at_call 109; (with_reducible refine (HN1.out _ extA).mono ?_); rintro e' w3 ⟨rfl, hx3⟩; have hz3 := hx3.size; (try simp at hz3); have hb3_0 : w.heap.size < w3.heap.size := (by omega); have r0 := (hx3.cells (w.heap.size) (0) (by first | omega | (simp <;> omega))).trans (show _ = some (.int .i64 1) by first | assumption | go_simp); have r1 := (hx3.cells (w.heap.size) (1) (by first | omega | (simp <;> omega))).trans (show _ = some (.slice a1 n1 c1) by first | assumption | go_simp); have r2 := (hx3.cells (w.heap.size) (2) (by first | omega | (simp <;> omega))).trans (show _ = some (.int .i64 c) by first | assumption | go_simp); have r3 := (hx3.cells (w.heap.size) (3) (by first | omega | (simp <;> omega))).trans (show _ = some (.string s) by first | assumption | go_simp); have r4 := (hx3.cells (w.heap.size) (4) (by first | omega | (simp <;> omega))).trans (show _ = some (.slice a2 n2 c2) by first | assumption | go_simp); have r5 := (hx3.cells (w.heap.size) (5) (by first | omega | (simp <;> omega))).trans (show _ = some (.int .i64 e) by first | assumption | go_simp); have r6 := (hx3.cells (w.heap.size) (6) (by first | omega | (simp <;> omega))).trans (show _ = some (.int .i64 mn) by first | assumption | go_simp))
          | (go_at_call 113; (with_reducible refine (HX.out _ extA).mono ?_); rintro e' w5 ⟨cs5, rfl, hm5, hx5⟩; obtain ⟨v5, rfl, hv5, _⟩ := hm5; obtain ⟨a5, n5, c5, rfl⟩ := hv5.slice; clear hv5)
          | (go_at_call 112; (with_reducible refine (between_any _ _ _ _).mono ?_); rintro e' w' ⟨rfl, rfl⟩))
        go_ret
        exact ⟨rfl, extA⟩
      | true =>
        rw [g] at HN2
        clear HN1 HK
        by_cases h1 : mn = 0
        · rw [checkD_put_ok rfl H0.out g h1]
          have t1 : (mn != 0) = false := by simpa using h1
          clear h1
          go_enter Tryz.func64, Tryz.ntmps64
          go_wp2_with (first
            | (go_at_call 111; (with_reducible refine (HR.out _ extA).mono ?_); rintro e' w1 ⟨rfl, hx1⟩; have hz1 := hx1.size; (try simp at hz1); have hb1_0 : w.heap.size < w1.heap.size := (by omega); have p0 := (hx1.cells (w.heap.size) (0) (by first | omega | (simp <;> omega))).trans (show _ = some (.int .i64 1) by first | assumption | go_simp); have p1 := (hx1.cells (w.heap.size) (1) (by first | omega | (simp <;> omega))).trans (show _ = some (.slice a1 n1 c1) by first | assumption | go_simp); have p2 := (hx1.cells (w.heap.size) (2) (by first | omega | (simp <;> omega))).trans (show _ = some (.int .i64 c) by first | assumption | go_simp); have p3 := (hx1.cells (w.heap.size) (3) (by first | omega | (simp <;> omega))).trans (show _ = some (.string s) by first | assumption | go_simp); have p4 := (hx1.cells (w.heap.size) (4) (by first | omega | (simp <;> omega))).trans (show _ = some (.slice a2 n2 c2) by first | assumption | go_simp); have p5 := (hx1.cells (w.heap.size) (5) (by first | omega | (simp <;> omega))).trans (show _ = some (.int .i64 e) by first | assumption | go_simp); have p6 := (hx1.cells (w.heap.size) (6) (by first | omega | (simp <;> omega))).trans (show _ = some (.int .i64 mn) by first | assumption | go_simp))
            | (go_at_call 108; (with_reducible refine (HK.out _ extA).mono ?_); rintro e' w2 ⟨rfl, hx2⟩; have hz2 := hx2.size; (try simp at hz2); have hb2_0 : w.heap.size < w2.heap.size := (by omega); have q0 := (hx2.cells (w.heap.size) (0) (by first | omega | (simp <;> omega))).trans (show _ = some (.int .i64 1) by first | assumption | go_simp); have q1 := (hx2.cells (w.heap.size) (1) (by first | omega | (simp <;> omega))).trans (show _ = some (.slice a1 n1 c1) by first | assumption | go_simp); have q2 := (hx2.cells (w.heap.size) (2) (by first | omega | (simp <;> omega))).trans (show _ = some (.int .i64 c) by first | assumption | go_simp); have q3 := (hx2.cells (w.heap.size) (3) (by first | omega | (simp <;> omega))).trans (show _ = some (.string s) by first | assumption | go_simp); have q4 := (hx2.cells (w.heap.size) (4) (by first | omega | (simp <;> omega))).trans (show _ = some (.slice a2 n2 c2) by first | assumption | go_simp); have q5 := (hx2.cells (w.heap.size) (5) (by first | omega | (simp <;> omega))).trans (show _ = some (.int .i64 e) by first | assumption | go_simp); have q6 := (hx2.cells (w.heap.size) (6) (by first | omega | (simp <;> omega))).trans (show _ = some (.int .i64 mn) by first | assumption | go_simp))
            | (go_at_call 109; (with_reducible refine (HN2.out _ extA).mono ?_); rintro e' w4 ⟨rfl, hx4⟩; have hz4 := hx4.size; (try simp at hz4); have hb4_0 : w.heap.size < w4.heap.size := (by omega); have s0 := (hx4.cells (w.heap.size) (0) (by first | omega | (simp <;> omega))).trans (show _ = some (.int .i64 1) by first | assumption | go_simp); have s1 := (hx4.cells (w.heap.size) (1) (by first | omega | (simp <;> omega))).trans (show _ = some (.slice a1 n1 c1) by first | assumption | go_simp); have s2 := (hx4.cells (w.heap.size) (2) (by first | omega | (simp <;> omega))).trans (show _ = some (.int .i64 c) by first | assumption | go_simp); have s3 := (hx4.cells (w.heap.size) (3) (by first | omega | (simp <;> omega))).trans (show _ = some (.string s) by first | assumption | go_simp); have s4 := (hx4.cells (w.heap.size) (4) (by first | omega | (simp <;> omega))).trans (show _ = some (.slice a2 n2 c2) by first | assumption | go_simp); have s5 := (hx4.cells (w.heap.size) (5) (by first | omega | (simp <;> omega))).trans (show _ = some (.int .i64 e) by first | assumption | go_simp); have s6 := (hx4.cells (w.heap.size) (6) (by first | omega | (simp <;> omega))).trans (show _ = some (.int .i64 mn) by first | assumption | go_simp))
            | (go_at_call 109; (with_reducible refine (HN1.out _ extA).mono ?_); rintro e' w3 ⟨rfl, hx3⟩; have hz3 := hx3.size; (try simp at hz3); have hb3_0 : w.heap.size < w3.heap.size := (by omega); have r0 := (hx3.cells (w.heap.size) (0) (by first | omega | (simp <;> omega))).trans (show _ = some (.int .i64 1) by first | assumption | go_simp); have r1 := (hx3.cells (w.heap.size) (1) (by first | omega | (simp <;> omega))).trans (show _ = some (.slice a1 n1 c1) by first | assumption | go_simp); have r2 := (hx3.cells (w.heap.size) (2) (by first | omega | (simp <;> omega))).trans (show _ = some (.int .i64 c) by first | assumption | go_simp); have r3 := (hx3.cells (w.heap.size) (3) (by first | omega | (simp <;> omega))).trans (show _ = some (.string s) by first | assumption | go_simp); have r4 := (hx3.cells (w.heap.size) (4) (by first | omega | (simp <;> omega))).trans (show _ = some (.slice a2 n2 c2) by first | assumption | go_simp); have r5 := (hx3.cells (w.heap.size) (5) (by first | omega | (simp <;> omega))).trans (show _ = some (.int .i64 e) by first | assumption | go_simp); have r6 := (hx3.cells (w.heap.size) (6) (by first | omega | (simp <;> omega))).trans (show _ = some (.int .i64 mn) by first | assumption | go_simp))
            | (go_at_call 113; (with_reducible refine (HX.out _ extA).mono ?_); rintro e' w5 ⟨cs5, rfl, hm5, hx5⟩; obtain ⟨v5, rfl, hv5, _⟩ := hm5; obtain ⟨a5, n5, c5, rfl⟩ := hv5.slice; clear hv5)
            | (go_at_call 112; (with_reducible refine (between_any _ _ _ _).mono ?_); rintro e' w' ⟨rfl, rfl⟩))
          go_ret
          exact ⟨rfl, extA⟩
        · rw [checkD_put_form rfl H0.out (.inr h1)]
          have t1 : (mn != 0) = true := by simpa using h1
          clear h1
          go_enter Tryz.func64, Tryz.ntmps64
          go_wp2_with (first
            | (go_at_call 111; (with_reducible refine (HR.out _ extA).mono ?_); rintro e' w1 ⟨rfl, hx1⟩; have hz1 := hx1.size; (try simp at hz1); have hb1_0 : w.heap.size < w1.heap.size := (by omega); have p0 := (hx1.cells (w.heap.size) (0) (by first | omega | (simp <;> omega))).trans (show _ = some (.int .i64 1) by first | assumption | go_simp); have p1 := (hx1.cells (w.heap.size) (1) (by first | omega | (simp <;> omega))).trans (show _ = some (.slice a1 n1 c1) by first | assumption | go_simp); have p2 := (hx1.cells (w.heap.size) (2) (by first | omega | (simp <;> omega))).trans (show _ = some (.int .i64 c) by first | assumption | go_simp); have p3 := (hx1.cells (w.heap.size) (3) (by first | omega | (simp <;> omega))).trans (show _ = some (.string s) by first | assumption | go_simp); have p4 := (hx1.cells (w.heap.size) (4) (by first | omega | (simp <;> omega))).trans (show _ = some (.slice a2 n2 c2) by first | assumption | go_simp); have p5 := (hx1.cells (w.heap.size) (5) (by first | omega | (simp <;> omega))).trans (show _ = some (.int .i64 e) by first | assumption | go_simp); have p6 := (hx1.cells (w.heap.size) (6) (by first | omega | (simp <;> omega))).trans (show _ = some (.int .i64 mn) by first | assumption | go_simp))
            | (go_at_call 108; (with_reducible refine (HK.out _ extA).mono ?_); rintro e' w2 ⟨rfl, hx2⟩; have hz2 := hx2.size; (try simp at hz2); have hb2_0 : w.heap.size < w2.heap.size := (by omega); have q0 := (hx2.cells (w.heap.size) (0) (by first | omega | (simp <;> omega))).trans (show _ = some (.int .i64 1) by first | assumption | go_simp); have q1 := (hx2.cells (w.heap.size) (1) (by first | omega | (simp <;> omega))).trans (show _ = some (.slice a1 n1 c1) by first | assumption | go_simp); have q2 := (hx2.cells (w.heap.size) (2) (by first | omega | (simp <;> omega))).trans (show _ = some (.int .i64 c) by first | assumption | go_simp); have q3 := (hx2.cells (w.heap.size) (3) (by first | omega | (simp <;> omega))).trans (show _ = some (.string s) by first | assumption | go_simp); have q4 := (hx2.cells (w.heap.size) (4) (by first | omega | (simp <;> omega))).trans (show _ = some (.slice a2 n2 c2) by first | assumption | go_simp); have q5 := (hx2.cells (w.heap.size) (5) (by first | omega | (simp <;> omega))).trans (show _ = some (.int .i64 e) by first | assumption | go_simp); have q6 := (hx2.cells (w.heap.size) (6) (by first | omega | (simp <;> omega))).trans (show _ = some (.int .i64 mn) by first | assumption | go_simp))
            | (go_at_call 109; (with_reducible refine (HN2.out _ extA).mono ?_); rintro e' w4 ⟨rfl, hx4⟩; have hz4 := hx4.size; (try simp at hz4); have hb4_0 : w.heap.size < w4.heap.size := (by omega); have s0 := (hx4.cells (w.heap.size) (0) (by first | omega | (simp <;> omega))).trans (show _ = some (.int .i64 1) by first | assumption | go_simp); have s1 := (hx4.cells (w.heap.size) (1) (by first | omega | (simp <;> omega))).trans (show _ = some (.slice a1 n1 c1) by first | assumption | go_simp); have s2 := (hx4.cells (w.heap.size) (2) (by first | omega | (simp <;> omega))).trans (show _ = some (.int .i64 c) by first | assumption | go_simp); have s3 := (hx4.cells (w.heap.size) (3) (by first | omega | (simp <;> omega))).trans (show _ = some (.string s) by first | assumption | go_simp); have s4 := (hx4.cells (w.heap.size) (4) (by first | omega | (simp <;> omega))).trans (show _ = some (.slice a2 n2 c2) by first | assumption | go_simp); have s5 := (hx4.cells (w.heap.size) (5) (by first | omega | (simp <;> omega))).trans (show _ = some (.int .i64 e) by first | assumption | go_simp); have s6 := (hx4.cells (w.heap.size) (6) (by first | omega | (simp <;> omega))).trans (show _ = some (.int .i64 mn) by first | assumption | go_simp))
            | (go_at_call 109; (with_reducible refine (HN1.out _ extA).mono ?_); rintro e' w3 ⟨rfl, hx3⟩; have hz3 := hx3.size; (try simp at hz3); have hb3_0 : w.heap.size < w3.heap.size := (by omega); have r0 := (hx3.cells (w.heap.size) (0) (by first | omega | (simp <;> omega))).trans (show _ = some (.int .i64 1) by first | assumption | go_simp); have r1 := (hx3.cells (w.heap.size) (1) (by first | omega | (simp <;> omega))).trans (show _ = some (.slice a1 n1 c1) by first | assumption | go_simp); have r2 := (hx3.cells (w.heap.size) (2) (by first | omega | (simp <;> omega))).trans (show _ = some (.int .i64 c) by first | assumption | go_simp); have r3 := (hx3.cells (w.heap.size) (3) (by first | omega | (simp <;> omega))).trans (show _ = some (.string s) by first | assumption | go_simp); have r4 := (hx3.cells (w.heap.size) (4) (by first | omega | (simp <;> omega))).trans (show _ = some (.slice a2 n2 c2) by first | assumption | go_simp); have r5 := (hx3.cells (w.heap.size) (5) (by first | omega | (simp <;> omega))).trans (show _ = some (.int .i64 e) by first | assumption | go_simp); have r6 := (hx3.cells (w.heap.size) (6) (by first | omega | (simp <;> omega))).trans (show _ = some (.int .i64 mn) by first | assumption | go_simp))
            | (go_at_call 113; (with_reducible refine (HX.out _ extA).mono ?_); rintro e' w5 ⟨cs5, rfl, hm5, hx5⟩; obtain ⟨v5, rfl, hv5, _⟩ := hm5; obtain ⟨a5, n5, c5, rfl⟩ := hv5.slice; clear hv5)
            | (go_at_call 112; (with_reducible refine (between_any _ _ _ _).mono ?_); rintro e' w' ⟨rfl, rfl⟩))
          go_ret
          exact ⟨rfl, extA⟩
    · rw [checkD_put_bad rfl h0]
      simp only
      have t1 : (checkR ((l, c), s.data.toList) != 0) = true := by simpa using h0
      have t2 : (checkR ((l, c), s.data.toList) == 0) = false := by simpa using h0
      generalize checkR ((l, c), s.data.toList) = r at *
      clear h0
      go_enter Tryz.func64, Tryz.ntmps64
      go_wp2_with (first
        | (go_at_call 111; (with_reducible refine (HR.out _ extA).mono ?_); rintro e' w1 ⟨rfl, hx1⟩; have hz1 := hx1.size; (try simp at hz1); have hb1_0 : w.heap.size < w1.heap.size := (by omega); have p0 := (hx1.cells (w.heap.size) (0) (by first | omega | (simp <;> omega))).trans (show _ = some (.int .i64 1) by first | assumption | go_simp); have p1 := (hx1.cells (w.heap.size) (1) (by first | omega | (simp <;> omega))).trans (show _ = some (.slice a1 n1 c1) by first | assumption | go_simp); have p2 := (hx1.cells (w.heap.size) (2) (by first | omega | (simp <;> omega))).trans (show _ = some (.int .i64 c) by first | assumption | go_simp); have p3 := (hx1.cells (w.heap.size) (3) (by first | omega | (simp <;> omega))).trans (show _ = some (.string s) by first | assumption | go_simp); have p4 := (hx1.cells (w.heap.size) (4) (by first | omega | (simp <;> omega))).trans (show _ = some (.slice a2 n2 c2) by first | assumption | go_simp); have p5 := (hx1.cells (w.heap.size) (5) (by first | omega | (simp <;> omega))).trans (show _ = some (.int .i64 e) by first | assumption | go_simp); have p6 := (hx1.cells (w.heap.size) (6) (by first | omega | (simp <;> omega))).trans (show _ = some (.int .i64 mn) by first | assumption | go_simp))
        | (go_at_call 108; (with_reducible refine (HK.out _ extA).mono ?_); rintro e' w2 ⟨rfl, hx2⟩; have hz2 := hx2.size; (try simp at hz2); have hb2_0 : w.heap.size < w2.heap.size := (by omega); have q0 := (hx2.cells (w.heap.size) (0) (by first | omega | (simp <;> omega))).trans (show _ = some (.int .i64 1) by first | assumption | go_simp); have q1 := (hx2.cells (w.heap.size) (1) (by first | omega | (simp <;> omega))).trans (show _ = some (.slice a1 n1 c1) by first | assumption | go_simp); have q2 := (hx2.cells (w.heap.size) (2) (by first | omega | (simp <;> omega))).trans (show _ = some (.int .i64 c) by first | assumption | go_simp); have q3 := (hx2.cells (w.heap.size) (3) (by first | omega | (simp <;> omega))).trans (show _ = some (.string s) by first | assumption | go_simp); have q4 := (hx2.cells (w.heap.size) (4) (by first | omega | (simp <;> omega))).trans (show _ = some (.slice a2 n2 c2) by first | assumption | go_simp); have q5 := (hx2.cells (w.heap.size) (5) (by first | omega | (simp <;> omega))).trans (show _ = some (.int .i64 e) by first | assumption | go_simp); have q6 := (hx2.cells (w.heap.size) (6) (by first | omega | (simp <;> omega))).trans (show _ = some (.int .i64 mn) by first | assumption | go_simp))
        | (go_at_call 109; (with_reducible refine (HN2.out _ extA).mono ?_); rintro e' w4 ⟨rfl, hx4⟩; have hz4 := hx4.size; (try simp at hz4); have hb4_0 : w.heap.size < w4.heap.size := (by omega); have s0 := (hx4.cells (w.heap.size) (0) (by first | omega | (simp <;> omega))).trans (show _ = some (.int .i64 1) by first | assumption | go_simp); have s1 := (hx4.cells (w.heap.size) (1) (by first | omega | (simp <;> omega))).trans (show _ = some (.slice a1 n1 c1) by first | assumption | go_simp); have s2 := (hx4.cells (w.heap.size) (2) (by first | omega | (simp <;> omega))).trans (show _ = some (.int .i64 c) by first | assumption | go_simp); have s3 := (hx4.cells (w.heap.size) (3) (by first | omega | (simp <;> omega))).trans (show _ = some (.string s) by first | assumption | go_simp); have s4 := (hx4.cells (w.heap.size) (4) (by first | omega | (simp <;> omega))).trans (show _ = some (.slice a2 n2 c2) by first | assumption | go_simp); have s5 := (hx4.cells (w.heap.size) (5) (by first | omega | (simp <;> omega))).trans (show _ = some (.int .i64 e) by first | assumption | go_simp); have s6 := (hx4.cells (w.heap.size) (6) (by first | omega | (simp <;> omega))).trans (show _ = some (.int .i64 mn) by first | assumption | go_simp))
        | (go_at_call 109; (with_reducible refine (HN1.out _ extA).mono ?_); rintro e' w3 ⟨rfl, hx3⟩; have hz3 := hx3.size; (try simp at hz3); have hb3_0 : w.heap.size < w3.heap.size := (by omega); have r0 := (hx3.cells (w.heap.size) (0) (by first | omega | (simp <;> omega))).trans (show _ = some (.int .i64 1) by first | assumption | go_simp); have r1 := (hx3.cells (w.heap.size) (1) (by first | omega | (simp <;> omega))).trans (show _ = some (.slice a1 n1 c1) by first | assumption | go_simp); have r2 := (hx3.cells (w.heap.size) (2) (by first | omega | (simp <;> omega))).trans (show _ = some (.int .i64 c) by first | assumption | go_simp); have r3 := (hx3.cells (w.heap.size) (3) (by first | omega | (simp <;> omega))).trans (show _ = some (.string s) by first | assumption | go_simp); have r4 := (hx3.cells (w.heap.size) (4) (by first | omega | (simp <;> omega))).trans (show _ = some (.slice a2 n2 c2) by first | assumption | go_simp); have r5 := (hx3.cells (w.heap.size) (5) (by first | omega | (simp <;> omega))).trans (show _ = some (.int .i64 e) by first | assumption | go_simp); have r6 := (hx3.cells (w.heap.size) (6) (by first | omega | (simp <;> omega))).trans (show _ = some (.int .i64 mn) by first | assumption | go_simp))
        | (go_at_call 113; (with_reducible refine (HX.out _ extA).mono ?_); rintro e' w5 ⟨cs5, rfl, hm5, hx5⟩; obtain ⟨v5, rfl, hv5, _⟩ := hm5; obtain ⟨a5, n5, c5, rfl⟩ := hv5.slice; clear hv5)
        | (go_at_call 112; (with_reducible refine (between_any _ _ _ _).mono ?_); rintro e' w' ⟨rfl, rfl⟩))
      go_ret
      exact ⟨rfl, extA⟩
  · have t0 : (kd == 1) = false := by simpa using k1
    by_cases k2 : kd = 2
    · subst k2
      by_cases h0 : checkM (m, e) = 0
      · have H0 := Lib.hid h0
        rw [h0] at HK
        clear h0
        cases g : noneM (l, c) with
        | false =>
          rw [checkD_take_form k1 rfl H0.out (.inl g)]
          rw [g] at HN1
          clear k1 HN2
          go_enter Tryz.func64, Tryz.ntmps64
          go_wp2_with (first
            | (go_at_call 111; (with_reducible refine (HR.out _ extA).mono ?_); rintro e' w1 ⟨rfl, hx1⟩; have hz1 := hx1.size; (try simp at hz1); have hb1_0 : w.heap.size < w1.heap.size := (by omega); have p0 := (hx1.cells (w.heap.size) (0) (by first | omega | (simp <;> omega))).trans (show _ = some (.int .i64 2) by first | assumption | go_simp); have p1 := (hx1.cells (w.heap.size) (1) (by first | omega | (simp <;> omega))).trans (show _ = some (.slice a1 n1 c1) by first | assumption | go_simp); have p2 := (hx1.cells (w.heap.size) (2) (by first | omega | (simp <;> omega))).trans (show _ = some (.int .i64 c) by first | assumption | go_simp); have p3 := (hx1.cells (w.heap.size) (3) (by first | omega | (simp <;> omega))).trans (show _ = some (.string s) by first | assumption | go_simp); have p4 := (hx1.cells (w.heap.size) (4) (by first | omega | (simp <;> omega))).trans (show _ = some (.slice a2 n2 c2) by first | assumption | go_simp); have p5 := (hx1.cells (w.heap.size) (5) (by first | omega | (simp <;> omega))).trans (show _ = some (.int .i64 e) by first | assumption | go_simp); have p6 := (hx1.cells (w.heap.size) (6) (by first | omega | (simp <;> omega))).trans (show _ = some (.int .i64 mn) by first | assumption | go_simp))
            | (go_at_call 108; (with_reducible refine (HK.out _ extA).mono ?_); rintro e' w2 ⟨rfl, hx2⟩; have hz2 := hx2.size; (try simp at hz2); have hb2_0 : w.heap.size < w2.heap.size := (by omega); have q0 := (hx2.cells (w.heap.size) (0) (by first | omega | (simp <;> omega))).trans (show _ = some (.int .i64 2) by first | assumption | go_simp); have q1 := (hx2.cells (w.heap.size) (1) (by first | omega | (simp <;> omega))).trans (show _ = some (.slice a1 n1 c1) by first | assumption | go_simp); have q2 := (hx2.cells (w.heap.size) (2) (by first | omega | (simp <;> omega))).trans (show _ = some (.int .i64 c) by first | assumption | go_simp); have q3 := (hx2.cells (w.heap.size) (3) (by first | omega | (simp <;> omega))).trans (show _ = some (.string s) by first | assumption | go_simp); have q4 := (hx2.cells (w.heap.size) (4) (by first | omega | (simp <;> omega))).trans (show _ = some (.slice a2 n2 c2) by first | assumption | go_simp); have q5 := (hx2.cells (w.heap.size) (5) (by first | omega | (simp <;> omega))).trans (show _ = some (.int .i64 e) by first | assumption | go_simp); have q6 := (hx2.cells (w.heap.size) (6) (by first | omega | (simp <;> omega))).trans (show _ = some (.int .i64 mn) by first | assumption | go_simp))
            | (go_at_call 109; (with_reducible refine (HN2.out _ extA).mono ?_); rintro e' w4 ⟨rfl, hx4⟩; have hz4 := hx4.size; (try simp at hz4); have hb4_0 : w.heap.size < w4.heap.size := (by omega); have s0 := (hx4.cells (w.heap.size) (0) (by first | omega | (simp <;> omega))).trans (show _ = some (.int .i64 2) by first | assumption | go_simp); have s1 := (hx4.cells (w.heap.size) (1) (by first | omega | (simp <;> omega))).trans (show _ = some (.slice a1 n1 c1) by first | assumption | go_simp); have s2 := (hx4.cells (w.heap.size) (2) (by first | omega | (simp <;> omega))).trans (show _ = some (.int .i64 c) by first | assumption | go_simp); have s3 := (hx4.cells (w.heap.size) (3) (by first | omega | (simp <;> omega))).trans (show _ = some (.string s) by first | assumption | go_simp); have s4 := (hx4.cells (w.heap.size) (4) (by first | omega | (simp <;> omega))).trans (show _ = some (.slice a2 n2 c2) by first | assumption | go_simp); have s5 := (hx4.cells (w.heap.size) (5) (by first | omega | (simp <;> omega))).trans (show _ = some (.int .i64 e) by first | assumption | go_simp); have s6 := (hx4.cells (w.heap.size) (6) (by first | omega | (simp <;> omega))).trans (show _ = some (.int .i64 mn) by first | assumption | go_simp))
            | (go_at_call 109; (with_reducible refine (HN1.out _ extA).mono ?_); rintro e' w3 ⟨rfl, hx3⟩; have hz3 := hx3.size; (try simp at hz3); have hb3_0 : w.heap.size < w3.heap.size := (by omega); have r0 := (hx3.cells (w.heap.size) (0) (by first | omega | (simp <;> omega))).trans (show _ = some (.int .i64 2) by first | assumption | go_simp); have r1 := (hx3.cells (w.heap.size) (1) (by first | omega | (simp <;> omega))).trans (show _ = some (.slice a1 n1 c1) by first | assumption | go_simp); have r2 := (hx3.cells (w.heap.size) (2) (by first | omega | (simp <;> omega))).trans (show _ = some (.int .i64 c) by first | assumption | go_simp); have r3 := (hx3.cells (w.heap.size) (3) (by first | omega | (simp <;> omega))).trans (show _ = some (.string s) by first | assumption | go_simp); have r4 := (hx3.cells (w.heap.size) (4) (by first | omega | (simp <;> omega))).trans (show _ = some (.slice a2 n2 c2) by first | assumption | go_simp); have r5 := (hx3.cells (w.heap.size) (5) (by first | omega | (simp <;> omega))).trans (show _ = some (.int .i64 e) by first | assumption | go_simp); have r6 := (hx3.cells (w.heap.size) (6) (by first | omega | (simp <;> omega))).trans (show _ = some (.int .i64 mn) by first | assumption | go_simp))
            | (go_at_call 113; (with_reducible refine (HX.out _ extA).mono ?_); rintro e' w5 ⟨cs5, rfl, hm5, hx5⟩; obtain ⟨v5, rfl, hv5, _⟩ := hm5; obtain ⟨a5, n5, c5, rfl⟩ := hv5.slice; clear hv5)
            | (go_at_call 112; (with_reducible refine (between_any _ _ _ _).mono ?_); rintro e' w' ⟨rfl, rfl⟩))
          go_ret
          exact ⟨rfl, extA⟩
        | true =>
          rw [g] at HN1
          clear HN2
          by_cases h1 : s.size = 0
          · have t1 : s.toList.isEmpty = true := empty_yes h1
            by_cases h2 : mn < 1 ∨ 60 < mn
            · rw [checkD_take_range k1 rfl H0.out g (bytes_nil h1) h2]
              have t3 : inB mn 1 60 = false := by unfold inB; simp; omega
              rcases h2 with h2 | h2
              · have t2 : decide (mn < 1) = true := decide_eq_true h2
                clear k1 h1
                go_enter Tryz.func64, Tryz.ntmps64
                go_wp2_with (first
                  | (go_at_call 111; (with_reducible refine (HR.out _ extA).mono ?_); rintro e' w1 ⟨rfl, hx1⟩; have hz1 := hx1.size; (try simp at hz1); have hb1_0 : w.heap.size < w1.heap.size := (by omega); have p0 := (hx1.cells (w.heap.size) (0) (by first | omega | (simp <;> omega))).trans (show _ = some (.int .i64 2) by first | assumption | go_simp); have p1 := (hx1.cells (w.heap.size) (1) (by first | omega | (simp <;> omega))).trans (show _ = some (.slice a1 n1 c1) by first | assumption | go_simp); have p2 := (hx1.cells (w.heap.size) (2) (by first | omega | (simp <;> omega))).trans (show _ = some (.int .i64 c) by first | assumption | go_simp); have p3 := (hx1.cells (w.heap.size) (3) (by first | omega | (simp <;> omega))).trans (show _ = some (.string s) by first | assumption | go_simp); have p4 := (hx1.cells (w.heap.size) (4) (by first | omega | (simp <;> omega))).trans (show _ = some (.slice a2 n2 c2) by first | assumption | go_simp); have p5 := (hx1.cells (w.heap.size) (5) (by first | omega | (simp <;> omega))).trans (show _ = some (.int .i64 e) by first | assumption | go_simp); have p6 := (hx1.cells (w.heap.size) (6) (by first | omega | (simp <;> omega))).trans (show _ = some (.int .i64 mn) by first | assumption | go_simp))
                  | (go_at_call 108; (with_reducible refine (HK.out _ extA).mono ?_); rintro e' w2 ⟨rfl, hx2⟩; have hz2 := hx2.size; (try simp at hz2); have hb2_0 : w.heap.size < w2.heap.size := (by omega); have q0 := (hx2.cells (w.heap.size) (0) (by first | omega | (simp <;> omega))).trans (show _ = some (.int .i64 2) by first | assumption | go_simp); have q1 := (hx2.cells (w.heap.size) (1) (by first | omega | (simp <;> omega))).trans (show _ = some (.slice a1 n1 c1) by first | assumption | go_simp); have q2 := (hx2.cells (w.heap.size) (2) (by first | omega | (simp <;> omega))).trans (show _ = some (.int .i64 c) by first | assumption | go_simp); have q3 := (hx2.cells (w.heap.size) (3) (by first | omega | (simp <;> omega))).trans (show _ = some (.string s) by first | assumption | go_simp); have q4 := (hx2.cells (w.heap.size) (4) (by first | omega | (simp <;> omega))).trans (show _ = some (.slice a2 n2 c2) by first | assumption | go_simp); have q5 := (hx2.cells (w.heap.size) (5) (by first | omega | (simp <;> omega))).trans (show _ = some (.int .i64 e) by first | assumption | go_simp); have q6 := (hx2.cells (w.heap.size) (6) (by first | omega | (simp <;> omega))).trans (show _ = some (.int .i64 mn) by first | assumption | go_simp))
                  | (go_at_call 109; (with_reducible refine (HN2.out _ extA).mono ?_); rintro e' w4 ⟨rfl, hx4⟩; have hz4 := hx4.size; (try simp at hz4); have hb4_0 : w.heap.size < w4.heap.size := (by omega); have s0 := (hx4.cells (w.heap.size) (0) (by first | omega | (simp <;> omega))).trans (show _ = some (.int .i64 2) by first | assumption | go_simp); have s1 := (hx4.cells (w.heap.size) (1) (by first | omega | (simp <;> omega))).trans (show _ = some (.slice a1 n1 c1) by first | assumption | go_simp); have s2 := (hx4.cells (w.heap.size) (2) (by first | omega | (simp <;> omega))).trans (show _ = some (.int .i64 c) by first | assumption | go_simp); have s3 := (hx4.cells (w.heap.size) (3) (by first | omega | (simp <;> omega))).trans (show _ = some (.string s) by first | assumption | go_simp); have s4 := (hx4.cells (w.heap.size) (4) (by first | omega | (simp <;> omega))).trans (show _ = some (.slice a2 n2 c2) by first | assumption | go_simp); have s5 := (hx4.cells (w.heap.size) (5) (by first | omega | (simp <;> omega))).trans (show _ = some (.int .i64 e) by first | assumption | go_simp); have s6 := (hx4.cells (w.heap.size) (6) (by first | omega | (simp <;> omega))).trans (show _ = some (.int .i64 mn) by first | assumption | go_simp))
                  | (go_at_call 109; (with_reducible refine (HN1.out _ extA).mono ?_); rintro e' w3 ⟨rfl, hx3⟩; have hz3 := hx3.size; (try simp at hz3); have hb3_0 : w.heap.size < w3.heap.size := (by omega); have r0 := (hx3.cells (w.heap.size) (0) (by first | omega | (simp <;> omega))).trans (show _ = some (.int .i64 2) by first | assumption | go_simp); have r1 := (hx3.cells (w.heap.size) (1) (by first | omega | (simp <;> omega))).trans (show _ = some (.slice a1 n1 c1) by first | assumption | go_simp); have r2 := (hx3.cells (w.heap.size) (2) (by first | omega | (simp <;> omega))).trans (show _ = some (.int .i64 c) by first | assumption | go_simp); have r3 := (hx3.cells (w.heap.size) (3) (by first | omega | (simp <;> omega))).trans (show _ = some (.string s) by first | assumption | go_simp); have r4 := (hx3.cells (w.heap.size) (4) (by first | omega | (simp <;> omega))).trans (show _ = some (.slice a2 n2 c2) by first | assumption | go_simp); have r5 := (hx3.cells (w.heap.size) (5) (by first | omega | (simp <;> omega))).trans (show _ = some (.int .i64 e) by first | assumption | go_simp); have r6 := (hx3.cells (w.heap.size) (6) (by first | omega | (simp <;> omega))).trans (show _ = some (.int .i64 mn) by first | assumption | go_simp))
                  | (go_at_call 113; (with_reducible refine (HX.out _ extA).mono ?_); rintro e' w5 ⟨cs5, rfl, hm5, hx5⟩; obtain ⟨v5, rfl, hv5, _⟩ := hm5; obtain ⟨a5, n5, c5, rfl⟩ := hv5.slice; clear hv5)
                  | (go_at_call 112; (with_reducible refine (between_any _ _ _ _).mono ?_); rintro e' w' ⟨rfl, rfl⟩))
                go_ret
                exact ⟨rfl, extA⟩
              · have t2 : decide (mn < 1) = false := decide_eq_false (by omega)
                have t4 : decide (60 < mn) = true := decide_eq_true h2
                clear k1 h1
                go_enter Tryz.func64, Tryz.ntmps64
                go_wp2_with (first
                  | (go_at_call 111; (with_reducible refine (HR.out _ extA).mono ?_); rintro e' w1 ⟨rfl, hx1⟩; have hz1 := hx1.size; (try simp at hz1); have hb1_0 : w.heap.size < w1.heap.size := (by omega); have p0 := (hx1.cells (w.heap.size) (0) (by first | omega | (simp <;> omega))).trans (show _ = some (.int .i64 2) by first | assumption | go_simp); have p1 := (hx1.cells (w.heap.size) (1) (by first | omega | (simp <;> omega))).trans (show _ = some (.slice a1 n1 c1) by first | assumption | go_simp); have p2 := (hx1.cells (w.heap.size) (2) (by first | omega | (simp <;> omega))).trans (show _ = some (.int .i64 c) by first | assumption | go_simp); have p3 := (hx1.cells (w.heap.size) (3) (by first | omega | (simp <;> omega))).trans (show _ = some (.string s) by first | assumption | go_simp); have p4 := (hx1.cells (w.heap.size) (4) (by first | omega | (simp <;> omega))).trans (show _ = some (.slice a2 n2 c2) by first | assumption | go_simp); have p5 := (hx1.cells (w.heap.size) (5) (by first | omega | (simp <;> omega))).trans (show _ = some (.int .i64 e) by first | assumption | go_simp); have p6 := (hx1.cells (w.heap.size) (6) (by first | omega | (simp <;> omega))).trans (show _ = some (.int .i64 mn) by first | assumption | go_simp))
                  | (go_at_call 108; (with_reducible refine (HK.out _ extA).mono ?_); rintro e' w2 ⟨rfl, hx2⟩; have hz2 := hx2.size; (try simp at hz2); have hb2_0 : w.heap.size < w2.heap.size := (by omega); have q0 := (hx2.cells (w.heap.size) (0) (by first | omega | (simp <;> omega))).trans (show _ = some (.int .i64 2) by first | assumption | go_simp); have q1 := (hx2.cells (w.heap.size) (1) (by first | omega | (simp <;> omega))).trans (show _ = some (.slice a1 n1 c1) by first | assumption | go_simp); have q2 := (hx2.cells (w.heap.size) (2) (by first | omega | (simp <;> omega))).trans (show _ = some (.int .i64 c) by first | assumption | go_simp); have q3 := (hx2.cells (w.heap.size) (3) (by first | omega | (simp <;> omega))).trans (show _ = some (.string s) by first | assumption | go_simp); have q4 := (hx2.cells (w.heap.size) (4) (by first | omega | (simp <;> omega))).trans (show _ = some (.slice a2 n2 c2) by first | assumption | go_simp); have q5 := (hx2.cells (w.heap.size) (5) (by first | omega | (simp <;> omega))).trans (show _ = some (.int .i64 e) by first | assumption | go_simp); have q6 := (hx2.cells (w.heap.size) (6) (by first | omega | (simp <;> omega))).trans (show _ = some (.int .i64 mn) by first | assumption | go_simp))
                  | (go_at_call 109; (with_reducible refine (HN2.out _ extA).mono ?_); rintro e' w4 ⟨rfl, hx4⟩; have hz4 := hx4.size; (try simp at hz4); have hb4_0 : w.heap.size < w4.heap.size := (by omega); have s0 := (hx4.cells (w.heap.size) (0) (by first | omega | (simp <;> omega))).trans (show _ = some (.int .i64 2) by first | assumption | go_simp); have s1 := (hx4.cells (w.heap.size) (1) (by first | omega | (simp <;> omega))).trans (show _ = some (.slice a1 n1 c1) by first | assumption | go_simp); have s2 := (hx4.cells (w.heap.size) (2) (by first | omega | (simp <;> omega))).trans (show _ = some (.int .i64 c) by first | assumption | go_simp); have s3 := (hx4.cells (w.heap.size) (3) (by first | omega | (simp <;> omega))).trans (show _ = some (.string s) by first | assumption | go_simp); have s4 := (hx4.cells (w.heap.size) (4) (by first | omega | (simp <;> omega))).trans (show _ = some (.slice a2 n2 c2) by first | assumption | go_simp); have s5 := (hx4.cells (w.heap.size) (5) (by first | omega | (simp <;> omega))).trans (show _ = some (.int .i64 e) by first | assumption | go_simp); have s6 := (hx4.cells (w.heap.size) (6) (by first | omega | (simp <;> omega))).trans (show _ = some (.int .i64 mn) by first | assumption | go_simp))
                  | (go_at_call 109; (with_reducible refine (HN1.out _ extA).mono ?_); rintro e' w3 ⟨rfl, hx3⟩; have hz3 := hx3.size; (try simp at hz3); have hb3_0 : w.heap.size < w3.heap.size := (by omega); have r0 := (hx3.cells (w.heap.size) (0) (by first | omega | (simp <;> omega))).trans (show _ = some (.int .i64 2) by first | assumption | go_simp); have r1 := (hx3.cells (w.heap.size) (1) (by first | omega | (simp <;> omega))).trans (show _ = some (.slice a1 n1 c1) by first | assumption | go_simp); have r2 := (hx3.cells (w.heap.size) (2) (by first | omega | (simp <;> omega))).trans (show _ = some (.int .i64 c) by first | assumption | go_simp); have r3 := (hx3.cells (w.heap.size) (3) (by first | omega | (simp <;> omega))).trans (show _ = some (.string s) by first | assumption | go_simp); have r4 := (hx3.cells (w.heap.size) (4) (by first | omega | (simp <;> omega))).trans (show _ = some (.slice a2 n2 c2) by first | assumption | go_simp); have r5 := (hx3.cells (w.heap.size) (5) (by first | omega | (simp <;> omega))).trans (show _ = some (.int .i64 e) by first | assumption | go_simp); have r6 := (hx3.cells (w.heap.size) (6) (by first | omega | (simp <;> omega))).trans (show _ = some (.int .i64 mn) by first | assumption | go_simp))
                  | (go_at_call 113; (with_reducible refine (HX.out _ extA).mono ?_); rintro e' w5 ⟨cs5, rfl, hm5, hx5⟩; obtain ⟨v5, rfl, hv5, _⟩ := hm5; obtain ⟨a5, n5, c5, rfl⟩ := hv5.slice; clear hv5)
                  | (go_at_call 112; (with_reducible refine (between_any _ _ _ _).mono ?_); rintro e' w' ⟨rfl, rfl⟩))
                go_ret
                exact ⟨rfl, extA⟩
            · rw [checkD_take_next k1 rfl H0.out g (bytes_nil h1) h2]
              have t3 : inB mn 1 60 = true := by unfold inB; simp; omega
              have t2 : decide (mn < 1) = false := decide_eq_false (by omega)
              have t4 : decide (60 < mn) = false := decide_eq_false (by omega)
              have b1 : 1 ≤ mn := by omega
              have b2 : mn ≤ 60 := by omega
              clear k1 h1 h2
              simp only
              generalize nextM (m, e) (mn - 1) = nx at *
              obtain ⟨⟨np, nc⟩, er⟩ := nx
              simp only at HX ⊢
              go_enter Tryz.func64, Tryz.ntmps64
              go_wp2_with (first
                | (go_at_call 111; (with_reducible refine (HR.out _ extA).mono ?_); rintro e' w1 ⟨rfl, hx1⟩; have hz1 := hx1.size; (try simp at hz1); have hb1_0 : w.heap.size < w1.heap.size := (by omega); have p0 := (hx1.cells (w.heap.size) (0) (by first | omega | (simp <;> omega))).trans (show _ = some (.int .i64 2) by first | assumption | go_simp); have p1 := (hx1.cells (w.heap.size) (1) (by first | omega | (simp <;> omega))).trans (show _ = some (.slice a1 n1 c1) by first | assumption | go_simp); have p2 := (hx1.cells (w.heap.size) (2) (by first | omega | (simp <;> omega))).trans (show _ = some (.int .i64 c) by first | assumption | go_simp); have p3 := (hx1.cells (w.heap.size) (3) (by first | omega | (simp <;> omega))).trans (show _ = some (.string s) by first | assumption | go_simp); have p4 := (hx1.cells (w.heap.size) (4) (by first | omega | (simp <;> omega))).trans (show _ = some (.slice a2 n2 c2) by first | assumption | go_simp); have p5 := (hx1.cells (w.heap.size) (5) (by first | omega | (simp <;> omega))).trans (show _ = some (.int .i64 e) by first | assumption | go_simp); have p6 := (hx1.cells (w.heap.size) (6) (by first | omega | (simp <;> omega))).trans (show _ = some (.int .i64 mn) by first | assumption | go_simp))
                | (go_at_call 108; (with_reducible refine (HK.out _ extA).mono ?_); rintro e' w2 ⟨rfl, hx2⟩; have hz2 := hx2.size; (try simp at hz2); have hb2_0 : w.heap.size < w2.heap.size := (by omega); have q0 := (hx2.cells (w.heap.size) (0) (by first | omega | (simp <;> omega))).trans (show _ = some (.int .i64 2) by first | assumption | go_simp); have q1 := (hx2.cells (w.heap.size) (1) (by first | omega | (simp <;> omega))).trans (show _ = some (.slice a1 n1 c1) by first | assumption | go_simp); have q2 := (hx2.cells (w.heap.size) (2) (by first | omega | (simp <;> omega))).trans (show _ = some (.int .i64 c) by first | assumption | go_simp); have q3 := (hx2.cells (w.heap.size) (3) (by first | omega | (simp <;> omega))).trans (show _ = some (.string s) by first | assumption | go_simp); have q4 := (hx2.cells (w.heap.size) (4) (by first | omega | (simp <;> omega))).trans (show _ = some (.slice a2 n2 c2) by first | assumption | go_simp); have q5 := (hx2.cells (w.heap.size) (5) (by first | omega | (simp <;> omega))).trans (show _ = some (.int .i64 e) by first | assumption | go_simp); have q6 := (hx2.cells (w.heap.size) (6) (by first | omega | (simp <;> omega))).trans (show _ = some (.int .i64 mn) by first | assumption | go_simp))
                | (go_at_call 109; (with_reducible refine (HN2.out _ extA).mono ?_); rintro e' w4 ⟨rfl, hx4⟩; have hz4 := hx4.size; (try simp at hz4); have hb4_0 : w.heap.size < w4.heap.size := (by omega); have s0 := (hx4.cells (w.heap.size) (0) (by first | omega | (simp <;> omega))).trans (show _ = some (.int .i64 2) by first | assumption | go_simp); have s1 := (hx4.cells (w.heap.size) (1) (by first | omega | (simp <;> omega))).trans (show _ = some (.slice a1 n1 c1) by first | assumption | go_simp); have s2 := (hx4.cells (w.heap.size) (2) (by first | omega | (simp <;> omega))).trans (show _ = some (.int .i64 c) by first | assumption | go_simp); have s3 := (hx4.cells (w.heap.size) (3) (by first | omega | (simp <;> omega))).trans (show _ = some (.string s) by first | assumption | go_simp); have s4 := (hx4.cells (w.heap.size) (4) (by first | omega | (simp <;> omega))).trans (show _ = some (.slice a2 n2 c2) by first | assumption | go_simp); have s5 := (hx4.cells (w.heap.size) (5) (by first | omega | (simp <;> omega))).trans (show _ = some (.int .i64 e) by first | assumption | go_simp); have s6 := (hx4.cells (w.heap.size) (6) (by first | omega | (simp <;> omega))).trans (show _ = some (.int .i64 mn) by first | assumption | go_simp))
                | (go_at_call 109; (with_reducible refine (HN1.out _ extA).mono ?_); rintro e' w3 ⟨rfl, hx3⟩; have hz3 := hx3.size; (try simp at hz3); have hb3_0 : w.heap.size < w3.heap.size := (by omega); have r0 := (hx3.cells (w.heap.size) (0) (by first | omega | (simp <;> omega))).trans (show _ = some (.int .i64 2) by first | assumption | go_simp); have r1 := (hx3.cells (w.heap.size) (1) (by first | omega | (simp <;> omega))).trans (show _ = some (.slice a1 n1 c1) by first | assumption | go_simp); have r2 := (hx3.cells (w.heap.size) (2) (by first | omega | (simp <;> omega))).trans (show _ = some (.int .i64 c) by first | assumption | go_simp); have r3 := (hx3.cells (w.heap.size) (3) (by first | omega | (simp <;> omega))).trans (show _ = some (.string s) by first | assumption | go_simp); have r4 := (hx3.cells (w.heap.size) (4) (by first | omega | (simp <;> omega))).trans (show _ = some (.slice a2 n2 c2) by first | assumption | go_simp); have r5 := (hx3.cells (w.heap.size) (5) (by first | omega | (simp <;> omega))).trans (show _ = some (.int .i64 e) by first | assumption | go_simp); have r6 := (hx3.cells (w.heap.size) (6) (by first | omega | (simp <;> omega))).trans (show _ = some (.int .i64 mn) by first | assumption | go_simp))
                | (go_at_call 113; (with_reducible refine (HX.out _ extA).mono ?_); rintro e' w5 ⟨cs5, rfl, hm5, hx5⟩; obtain ⟨v5, rfl, hv5, _⟩ := hm5; obtain ⟨a5, n5, c5, rfl⟩ := hv5.slice; clear hv5)
                | (go_at_call 112; (with_reducible refine (between_any _ _ _ _).mono ?_); rintro e' w' ⟨rfl, rfl⟩))
              go_ret
              exact ⟨rfl, extA⟩
          · rw [checkD_take_form k1 rfl H0.out (.inr (bytes_cons h1))]
            have t1 : s.toList.isEmpty = false := empty_no h1
            clear k1 h1
            go_enter Tryz.func64, Tryz.ntmps64
            go_wp2_with (first
              | (go_at_call 111; (with_reducible refine (HR.out _ extA).mono ?_); rintro e' w1 ⟨rfl, hx1⟩; have hz1 := hx1.size; (try simp at hz1); have hb1_0 : w.heap.size < w1.heap.size := (by omega); have p0 := (hx1.cells (w.heap.size) (0) (by first | omega | (simp <;> omega))).trans (show _ = some (.int .i64 2) by first | assumption | go_simp); have p1 := (hx1.cells (w.heap.size) (1) (by first | omega | (simp <;> omega))).trans (show _ = some (.slice a1 n1 c1) by first | assumption | go_simp); have p2 := (hx1.cells (w.heap.size) (2) (by first | omega | (simp <;> omega))).trans (show _ = some (.int .i64 c) by first | assumption | go_simp); have p3 := (hx1.cells (w.heap.size) (3) (by first | omega | (simp <;> omega))).trans (show _ = some (.string s) by first | assumption | go_simp); have p4 := (hx1.cells (w.heap.size) (4) (by first | omega | (simp <;> omega))).trans (show _ = some (.slice a2 n2 c2) by first | assumption | go_simp); have p5 := (hx1.cells (w.heap.size) (5) (by first | omega | (simp <;> omega))).trans (show _ = some (.int .i64 e) by first | assumption | go_simp); have p6 := (hx1.cells (w.heap.size) (6) (by first | omega | (simp <;> omega))).trans (show _ = some (.int .i64 mn) by first | assumption | go_simp))
              | (go_at_call 108; (with_reducible refine (HK.out _ extA).mono ?_); rintro e' w2 ⟨rfl, hx2⟩; have hz2 := hx2.size; (try simp at hz2); have hb2_0 : w.heap.size < w2.heap.size := (by omega); have q0 := (hx2.cells (w.heap.size) (0) (by first | omega | (simp <;> omega))).trans (show _ = some (.int .i64 2) by first | assumption | go_simp); have q1 := (hx2.cells (w.heap.size) (1) (by first | omega | (simp <;> omega))).trans (show _ = some (.slice a1 n1 c1) by first | assumption | go_simp); have q2 := (hx2.cells (w.heap.size) (2) (by first | omega | (simp <;> omega))).trans (show _ = some (.int .i64 c) by first | assumption | go_simp); have q3 := (hx2.cells (w.heap.size) (3) (by first | omega | (simp <;> omega))).trans (show _ = some (.string s) by first | assumption | go_simp); have q4 := (hx2.cells (w.heap.size) (4) (by first | omega | (simp <;> omega))).trans (show _ = some (.slice a2 n2 c2) by first | assumption | go_simp); have q5 := (hx2.cells (w.heap.size) (5) (by first | omega | (simp <;> omega))).trans (show _ = some (.int .i64 e) by first | assumption | go_simp); have q6 := (hx2.cells (w.heap.size) (6) (by first | omega | (simp <;> omega))).trans (show _ = some (.int .i64 mn) by first | assumption | go_simp))
              | (go_at_call 109; (with_reducible refine (HN2.out _ extA).mono ?_); rintro e' w4 ⟨rfl, hx4⟩; have hz4 := hx4.size; (try simp at hz4); have hb4_0 : w.heap.size < w4.heap.size := (by omega); have s0 := (hx4.cells (w.heap.size) (0) (by first | omega | (simp <;> omega))).trans (show _ = some (.int .i64 2) by first | assumption | go_simp); have s1 := (hx4.cells (w.heap.size) (1) (by first | omega | (simp <;> omega))).trans (show _ = some (.slice a1 n1 c1) by first | assumption | go_simp); have s2 := (hx4.cells (w.heap.size) (2) (by first | omega | (simp <;> omega))).trans (show _ = some (.int .i64 c) by first | assumption | go_simp); have s3 := (hx4.cells (w.heap.size) (3) (by first | omega | (simp <;> omega))).trans (show _ = some (.string s) by first | assumption | go_simp); have s4 := (hx4.cells (w.heap.size) (4) (by first | omega | (simp <;> omega))).trans (show _ = some (.slice a2 n2 c2) by first | assumption | go_simp); have s5 := (hx4.cells (w.heap.size) (5) (by first | omega | (simp <;> omega))).trans (show _ = some (.int .i64 e) by first | assumption | go_simp); have s6 := (hx4.cells (w.heap.size) (6) (by first | omega | (simp <;> omega))).trans (show _ = some (.int .i64 mn) by first | assumption | go_simp))
              | (go_at_call 109; (with_reducible refine (HN1.out _ extA).mono ?_); rintro e' w3 ⟨rfl, hx3⟩; have hz3 := hx3.size; (try simp at hz3); have hb3_0 : w.heap.size < w3.heap.size := (by omega); have r0 := (hx3.cells (w.heap.size) (0) (by first | omega | (simp <;> omega))).trans (show _ = some (.int .i64 2) by first | assumption | go_simp); have r1 := (hx3.cells (w.heap.size) (1) (by first | omega | (simp <;> omega))).trans (show _ = some (.slice a1 n1 c1) by first | assumption | go_simp); have r2 := (hx3.cells (w.heap.size) (2) (by first | omega | (simp <;> omega))).trans (show _ = some (.int .i64 c) by first | assumption | go_simp); have r3 := (hx3.cells (w.heap.size) (3) (by first | omega | (simp <;> omega))).trans (show _ = some (.string s) by first | assumption | go_simp); have r4 := (hx3.cells (w.heap.size) (4) (by first | omega | (simp <;> omega))).trans (show _ = some (.slice a2 n2 c2) by first | assumption | go_simp); have r5 := (hx3.cells (w.heap.size) (5) (by first | omega | (simp <;> omega))).trans (show _ = some (.int .i64 e) by first | assumption | go_simp); have r6 := (hx3.cells (w.heap.size) (6) (by first | omega | (simp <;> omega))).trans (show _ = some (.int .i64 mn) by first | assumption | go_simp))
              | (go_at_call 113; (with_reducible refine (HX.out _ extA).mono ?_); rintro e' w5 ⟨cs5, rfl, hm5, hx5⟩; obtain ⟨v5, rfl, hv5, _⟩ := hm5; obtain ⟨a5, n5, c5, rfl⟩ := hv5.slice; clear hv5)
              | (go_at_call 112; (with_reducible refine (between_any _ _ _ _).mono ?_); rintro e' w' ⟨rfl, rfl⟩))
            go_ret
            exact ⟨rfl, extA⟩
      · rw [checkD_take_bad k1 rfl h0]
        simp only
        have t1 : (checkM (m, e) != 0) = true := by simpa using h0
        generalize checkM (m, e) = r at *
        clear h0 k1
        go_enter Tryz.func64, Tryz.ntmps64
        go_wp2_with (first
          | (go_at_call 111; (with_reducible refine (HR.out _ extA).mono ?_); rintro e' w1 ⟨rfl, hx1⟩; have hz1 := hx1.size; (try simp at hz1); have hb1_0 : w.heap.size < w1.heap.size := (by omega); have p0 := (hx1.cells (w.heap.size) (0) (by first | omega | (simp <;> omega))).trans (show _ = some (.int .i64 2) by first | assumption | go_simp); have p1 := (hx1.cells (w.heap.size) (1) (by first | omega | (simp <;> omega))).trans (show _ = some (.slice a1 n1 c1) by first | assumption | go_simp); have p2 := (hx1.cells (w.heap.size) (2) (by first | omega | (simp <;> omega))).trans (show _ = some (.int .i64 c) by first | assumption | go_simp); have p3 := (hx1.cells (w.heap.size) (3) (by first | omega | (simp <;> omega))).trans (show _ = some (.string s) by first | assumption | go_simp); have p4 := (hx1.cells (w.heap.size) (4) (by first | omega | (simp <;> omega))).trans (show _ = some (.slice a2 n2 c2) by first | assumption | go_simp); have p5 := (hx1.cells (w.heap.size) (5) (by first | omega | (simp <;> omega))).trans (show _ = some (.int .i64 e) by first | assumption | go_simp); have p6 := (hx1.cells (w.heap.size) (6) (by first | omega | (simp <;> omega))).trans (show _ = some (.int .i64 mn) by first | assumption | go_simp))
          | (go_at_call 108; (with_reducible refine (HK.out _ extA).mono ?_); rintro e' w2 ⟨rfl, hx2⟩; have hz2 := hx2.size; (try simp at hz2); have hb2_0 : w.heap.size < w2.heap.size := (by omega); have q0 := (hx2.cells (w.heap.size) (0) (by first | omega | (simp <;> omega))).trans (show _ = some (.int .i64 2) by first | assumption | go_simp); have q1 := (hx2.cells (w.heap.size) (1) (by first | omega | (simp <;> omega))).trans (show _ = some (.slice a1 n1 c1) by first | assumption | go_simp); have q2 := (hx2.cells (w.heap.size) (2) (by first | omega | (simp <;> omega))).trans (show _ = some (.int .i64 c) by first | assumption | go_simp); have q3 := (hx2.cells (w.heap.size) (3) (by first | omega | (simp <;> omega))).trans (show _ = some (.string s) by first | assumption | go_simp); have q4 := (hx2.cells (w.heap.size) (4) (by first | omega | (simp <;> omega))).trans (show _ = some (.slice a2 n2 c2) by first | assumption | go_simp); have q5 := (hx2.cells (w.heap.size) (5) (by first | omega | (simp <;> omega))).trans (show _ = some (.int .i64 e) by first | assumption | go_simp); have q6 := (hx2.cells (w.heap.size) (6) (by first | omega | (simp <;> omega))).trans (show _ = some (.int .i64 mn) by first | assumption | go_simp))
          | (go_at_call 109; (with_reducible refine (HN2.out _ extA).mono ?_); rintro e' w4 ⟨rfl, hx4⟩; have hz4 := hx4.size; (try simp at hz4); have hb4_0 : w.heap.size < w4.heap.size := (by omega); have s0 := (hx4.cells (w.heap.size) (0) (by first | omega | (simp <;> omega))).trans (show _ = some (.int .i64 2) by first | assumption | go_simp); have s1 := (hx4.cells (w.heap.size) (1) (by first | omega | (simp <;> omega))).trans (show _ = some (.slice a1 n1 c1) by first | assumption | go_simp); have s2 := (hx4.cells (w.heap.size) (2) (by first | omega | (simp <;> omega))).trans (show _ = some (.int .i64 c) by first | assumption | go_simp); have s3 := (hx4.cells (w.heap.size) (3) (by first | omega | (simp <;> omega))).trans (show _ = some (.string s) by first | assumption | go_simp); have s4 := (hx4.cells (w.heap.size) (4) (by first | omega | (simp <;> omega))).trans (show _ = some (.slice a2 n2 c2) by first | assumption | go_simp); have s5 := (hx4.cells (w.heap.size) (5) (by first | omega | (simp <;> omega))).trans (show _ = some (.int .i64 e) by first | assumption | go_simp); have s6 := (hx4.cells (w.heap.size) (6) (by first | omega | (simp <;> omega))).trans (show _ = some (.int .i64 mn) by first | assumption | go_simp))
          | (go_at_call 109; (with_reducible refine (HN1.out _ extA).mono ?_); rintro e' w3 ⟨rfl, hx3⟩; have hz3 := hx3.size; (try simp at hz3); have hb3_0 : w.heap.size < w3.heap.size := (by omega); have r0 := (hx3.cells (w.heap.size) (0) (by first | omega | (simp <;> omega))).trans (show _ = some (.int .i64 2) by first | assumption | go_simp); have r1 := (hx3.cells (w.heap.size) (1) (by first | omega | (simp <;> omega))).trans (show _ = some (.slice a1 n1 c1) by first | assumption | go_simp); have r2 := (hx3.cells (w.heap.size) (2) (by first | omega | (simp <;> omega))).trans (show _ = some (.int .i64 c) by first | assumption | go_simp); have r3 := (hx3.cells (w.heap.size) (3) (by first | omega | (simp <;> omega))).trans (show _ = some (.string s) by first | assumption | go_simp); have r4 := (hx3.cells (w.heap.size) (4) (by first | omega | (simp <;> omega))).trans (show _ = some (.slice a2 n2 c2) by first | assumption | go_simp); have r5 := (hx3.cells (w.heap.size) (5) (by first | omega | (simp <;> omega))).trans (show _ = some (.int .i64 e) by first | assumption | go_simp); have r6 := (hx3.cells (w.heap.size) (6) (by first | omega | (simp <;> omega))).trans (show _ = some (.int .i64 mn) by first | assumption | go_simp))
          | (go_at_call 113; (with_reducible refine (HX.out _ extA).mono ?_); rintro e' w5 ⟨cs5, rfl, hm5, hx5⟩; obtain ⟨v5, rfl, hv5, _⟩ := hm5; obtain ⟨a5, n5, c5, rfl⟩ := hv5.slice; clear hv5)
          | (go_at_call 112; (with_reducible refine (between_any _ _ _ _).mono ?_); rintro e' w' ⟨rfl, rfl⟩))
        go_ret
        exact ⟨rfl, extA⟩
    · rw [checkD_kind k1 k2]
      have t1 : (kd == 2) = false := by simpa using k2
      have t2 : (kd != 2) = true := by simpa using k2
      clear k1 k2
      go_enter Tryz.func64, Tryz.ntmps64
      go_wp2_with (first
        | (go_at_call 111; (with_reducible refine (HR.out _ extA).mono ?_); rintro e' w1 ⟨rfl, hx1⟩; have hz1 := hx1.size; (try simp at hz1); have hb1_0 : w.heap.size < w1.heap.size := (by omega); have p0 := (hx1.cells (w.heap.size) (0) (by first | omega | (simp <;> omega))).trans (show _ = some (.int .i64 kd) by first | assumption | go_simp); have p1 := (hx1.cells (w.heap.size) (1) (by first | omega | (simp <;> omega))).trans (show _ = some (.slice a1 n1 c1) by first | assumption | go_simp); have p2 := (hx1.cells (w.heap.size) (2) (by first | omega | (simp <;> omega))).trans (show _ = some (.int .i64 c) by first | assumption | go_simp); have p3 := (hx1.cells (w.heap.size) (3) (by first | omega | (simp <;> omega))).trans (show _ = some (.string s) by first | assumption | go_simp); have p4 := (hx1.cells (w.heap.size) (4) (by first | omega | (simp <;> omega))).trans (show _ = some (.slice a2 n2 c2) by first | assumption | go_simp); have p5 := (hx1.cells (w.heap.size) (5) (by first | omega | (simp <;> omega))).trans (show _ = some (.int .i64 e) by first | assumption | go_simp); have p6 := (hx1.cells (w.heap.size) (6) (by first | omega | (simp <;> omega))).trans (show _ = some (.int .i64 mn) by first | assumption | go_simp))
        | (go_at_call 108; (with_reducible refine (HK.out _ extA).mono ?_); rintro e' w2 ⟨rfl, hx2⟩; have hz2 := hx2.size; (try simp at hz2); have hb2_0 : w.heap.size < w2.heap.size := (by omega); have q0 := (hx2.cells (w.heap.size) (0) (by first | omega | (simp <;> omega))).trans (show _ = some (.int .i64 kd) by first | assumption | go_simp); have q1 := (hx2.cells (w.heap.size) (1) (by first | omega | (simp <;> omega))).trans (show _ = some (.slice a1 n1 c1) by first | assumption | go_simp); have q2 := (hx2.cells (w.heap.size) (2) (by first | omega | (simp <;> omega))).trans (show _ = some (.int .i64 c) by first | assumption | go_simp); have q3 := (hx2.cells (w.heap.size) (3) (by first | omega | (simp <;> omega))).trans (show _ = some (.string s) by first | assumption | go_simp); have q4 := (hx2.cells (w.heap.size) (4) (by first | omega | (simp <;> omega))).trans (show _ = some (.slice a2 n2 c2) by first | assumption | go_simp); have q5 := (hx2.cells (w.heap.size) (5) (by first | omega | (simp <;> omega))).trans (show _ = some (.int .i64 e) by first | assumption | go_simp); have q6 := (hx2.cells (w.heap.size) (6) (by first | omega | (simp <;> omega))).trans (show _ = some (.int .i64 mn) by first | assumption | go_simp))
        | (go_at_call 109; (with_reducible refine (HN2.out _ extA).mono ?_); rintro e' w4 ⟨rfl, hx4⟩; have hz4 := hx4.size; (try simp at hz4); have hb4_0 : w.heap.size < w4.heap.size := (by omega); have s0 := (hx4.cells (w.heap.size) (0) (by first | omega | (simp <;> omega))).trans (show _ = some (.int .i64 kd) by first | assumption | go_simp); have s1 := (hx4.cells (w.heap.size) (1) (by first | omega | (simp <;> omega))).trans (show _ = some (.slice a1 n1 c1) by first | assumption | go_simp); have s2 := (hx4.cells (w.heap.size) (2) (by first | omega | (simp <;> omega))).trans (show _ = some (.int .i64 c) by first | assumption | go_simp); have s3 := (hx4.cells (w.heap.size) (3) (by first | omega | (simp <;> omega))).trans (show _ = some (.string s) by first | assumption | go_simp); have s4 := (hx4.cells (w.heap.size) (4) (by first | omega | (simp <;> omega))).trans (show _ = some (.slice a2 n2 c2) by first | assumption | go_simp); have s5 := (hx4.cells (w.heap.size) (5) (by first | omega | (simp <;> omega))).trans (show _ = some (.int .i64 e) by first | assumption | go_simp); have s6 := (hx4.cells (w.heap.size) (6) (by first | omega | (simp <;> omega))).trans (show _ = some (.int .i64 mn) by first | assumption | go_simp))
        | (go_at_call 109; (with_reducible refine (HN1.out _ extA).mono ?_); rintro e' w3 ⟨rfl, hx3⟩; have hz3 := hx3.size; (try simp at hz3); have hb3_0 : w.heap.size < w3.heap.size := (by omega); have r0 := (hx3.cells (w.heap.size) (0) (by first | omega | (simp <;> omega))).trans (show _ = some (.int .i64 kd) by first | assumption | go_simp); have r1 := (hx3.cells (w.heap.size) (1) (by first | omega | (simp <;> omega))).trans (show _ = some (.slice a1 n1 c1) by first | assumption | go_simp); have r2 := (hx3.cells (w.heap.size) (2) (by first | omega | (simp <;> omega))).trans (show _ = some (.int .i64 c) by first | assumption | go_simp); have r3 := (hx3.cells (w.heap.size) (3) (by first | omega | (simp <;> omega))).trans (show _ = some (.string s) by first | assumption | go_simp); have r4 := (hx3.cells (w.heap.size) (4) (by first | omega | (simp <;> omega))).trans (show _ = some (.slice a2 n2 c2) by first | assumption | go_simp); have r5 := (hx3.cells (w.heap.size) (5) (by first | omega | (simp <;> omega))).trans (show _ = some (.int .i64 e) by first | assumption | go_simp); have r6 := (hx3.cells (w.heap.size) (6) (by first | omega | (simp <;> omega))).trans (show _ = some (.int .i64 mn) by first | assumption | go_simp))
        | (go_at_call 113; (with_reducible refine (HX.out _ extA).mono ?_); rintro e' w5 ⟨cs5, rfl, hm5, hx5⟩; obtain ⟨v5, rfl, hv5, _⟩ := hm5; obtain ⟨a5, n5, c5, rfl⟩ := hv5.slice; clear hv5)
        | (go_at_call 112; (with_reducible refine (between_any _ _ _ _).mono ?_); rintro e' w' ⟨rfl, rfl⟩))
      go_ret
      exact ⟨rfl, extA⟩
end Go.Proofs.YtfgfdohppgoajaaGreat
/- The marks that a deed names, by the document. -/
namespace Go.Proofs.YtfgfdohppgoajaaGreat
open Go Go.RowKit Go.BigFrame Cp

def IsMksN (q : List Mk) (w : World) (e : Ending) (w' : World) : Prop := ∃ v, e = .returned v ∧ RSl RMk 2 (fun j => w.heap.size ≤ j) w' v q ∧ Ext w w'
theorem marksN_snoc (m : Mk) (k : Nat) : marksN m (k + 1) = marksN m k ++ [afterM m (k : Int)] := by unfold marksN; rw [List.range_succ, List.map_append]; rfl
set_option maxRecDepth 100000 in
set_option maxHeartbeats 4000000 in
theorem marksOf_any {F : Nat → Prop} {w : World} {cs : List Value} {d : De} (h : RDe F w cs d) (hc : checkD d = 0) :
    Calls Tryz.prog 114 #[.agg cs.toArray] w (IsMksN (marksD d) w) := by
  obtain ⟨v0, x0, u0, rfl, hk, h1, h2, h3, h4, h5, h6⟩ := h
  obtain ⟨a1, n1, c1, rfl⟩ := h1.slice
  obtain ⟨a2, n2, c2, rfl⟩ := h4.slice
  obtain ⟨sx, rfl, hsx, hsz⟩ := tx_bytes h3
  obtain ⟨dk, ⟨⟨p1, d1⟩, tx⟩, ⟨p2, d2⟩, dn⟩ := d
  simp only at hk h1 h2 h3 h4 h5 h6 hsx ⊢
  subst hsx
  obtain ⟨i0, hi0, hz0, hz1', hz2⟩ := info_parts cm_info
  have HJ := Lib.hid hi0
  have HZ0 := Lib.hid hz0
  have HZ1 := Lib.hid hz1'
  have HZ2 := Lib.hid hz2
  have HM1 := Lib.hid (fun (W : World) (hx : Ext w W) => rmk_of' (h1.ext gStp hx) h2)
  have HM2 := Lib.hid (fun (W : World) (hx : Ext w W) => rmk_of' (h4.ext gStp hx) h5)
  clear h1 h2 h3 h4 h5 h6 hk hi0 hz0 hz1' hz2
  by_cases hkd : dk = 1
  · obtain ⟨hr, _, _⟩ := deed_put hc hkd
    obtain ⟨hc2, _, hc3, _, _⟩ := checkR_parts hr
    simp only at hc2 hc3
    have hE : marksD ⟨dk, ((p1, d1), sx.data.toList), (p2, d2), dn⟩ = marksN (p1, d1) sx.size := by unfold marksD; rw [if_pos hkd]; try simp
    rw [hE]
    have hkk : (dk == 1) = true := by simpa using hkd
    have hs60 : sx.size ≤ 60 := by simpa using hc3
    have HAF := Lib.hid (fun (k : Nat) (hk : k < sx.size) (W : World) (hx : Ext w W) => afterOf_any (k := (k : Int)) (HM1.out W hx) (check_len hc2) (check_ne hc2) (check_digit hc2) (check_clock hc2) ⟨by omega, by omega⟩)
    clear hE hc hr hc2 hc3 HM1 HM2 hkd
    go_enter Tryz.func114, Tryz.ntmps114
    go_wp2_with fail
    refine wp_name (fun wb ewb => ?_)
    have b0 : wb.cell? ⟨w.heap.size, 0, none⟩ = some (.int .i64 dk) := by rw [ewb]; go_simp
    have b1 : wb.cell? ⟨w.heap.size, 1, none⟩ = some (.slice a1 n1 c1) := by rw [ewb]; go_simp
    have b2 : wb.cell? ⟨w.heap.size, 2, none⟩ = some (.int .i64 d1) := by rw [ewb]; go_simp
    have b3 : wb.cell? ⟨w.heap.size, 3, none⟩ = some (.string sx) := by rw [ewb]; go_simp
    have b4 : wb.cell? ⟨w.heap.size, 4, none⟩ = some (.slice a2 n2 c2) := by rw [ewb]; go_simp
    have b5 : wb.cell? ⟨w.heap.size, 5, none⟩ = some (.int .i64 d2) := by rw [ewb]; go_simp
    have b6 : wb.cell? ⟨w.heap.size, 6, none⟩ = some (.int .i64 dn) := by rw [ewb]; go_simp
    have hbb : w.heap.size < wb.heap.size := by rw [ewb]; first | omega | (simp <;> omega)
    have HWB := Lib.hid (show Ext w wb by rw [ewb]; exact extA)
    clear ewb
    go_loopw [3, 4] (fun ov iv wr => ∃ k : Nat, k ≤ sx.size ∧ iv = .int .i64 k ∧ Hid (OSl RMk 2 47 wb.heap.size (fun j => wb.heap.size ≤ j) wr ov (marksN (p1, d1) k)) ∧ Ext wb wr) (fun _ iv _ => sx.size - (intOf iv).toNat)
    case atStart => exact ⟨0, Nat.zero_le _, rfl, Lib.hid osl_nil, ext_refl _⟩
    case round =>
      obtain ⟨k, hk, rfl, HO, hx⟩ := hrel
      have x0 := (hx.cells w.heap.size 0 hbb).trans b0
      have x1 := (hx.cells w.heap.size 1 hbb).trans b1
      have x2 := (hx.cells w.heap.size 2 hbb).trans b2
      have x3 := (hx.cells w.heap.size 3 hbb).trans b3
      have x4 := (hx.cells w.heap.size 4 hbb).trans b4
      have x5 := (hx.cells w.heap.size 5 hbb).trans b5
      have x6 := (hx.cells w.heap.size 6 hbb).trans b6
      have hzr := hx.size
      have HXB := Lib.hid hx
      have HX := Lib.hid (ext_trans HWB.out hx)
      have hbr : w.heap.size < wr.heap.size := by omega
      clear hx b0 b1 b2 b3 b4 b5 b6
      obtain ⟨a5, n5, c5, rfl⟩ := osl_slice HO.out
      have HOL := Lib.hid (osl_lt HO.out)
      have hq : (marksN (p1, d1) k).length ≤ 1000 := by rw [marksN_len]; omega
      obtain rfl : n5 = (marksN (p1, d1) k).length := (osl_len HO.out).1
      by_cases hlt : k < sx.size
      · have HA := Lib.hid (HAF.out k hlt)
        have HEX := Lib.hid (marksN_snoc (p1, d1) k)
        generalize marksN (p1, d1) k = q at *
        generalize afterM (p1, d1) (k : Int) = am at *
        go_wp2_with (first | (go_at_call 122; go_must ((with_reducible refine (HA.out _ (ext_trans HX.out extA)).mono ?_); rintro e w3 ⟨cs3, rfl, hm3, hx3⟩; have HM3 := Lib.hid (omk_mk hm3); obtain ⟨v3, rfl, hv3, hi3⟩ := hm3; obtain ⟨a3, n3, c3, rfl⟩ := osl_slice hv3; have HI3 := Lib.hid hi3; have hs3 := hx3.size; (try simp at hs3); have hb3 : w.heap.size < w3.heap.size := (by omega); have q0 := (hx3.cells w.heap.size 0 (by first | omega | (simp <;> omega))).trans (show _ = some (.int .i64 dk) by first | assumption | go_simp); have q1 := (hx3.cells w.heap.size 1 (by first | omega | (simp <;> omega))).trans (show _ = some (.slice a1 n1 c1) by first | assumption | go_simp); have q2 := (hx3.cells w.heap.size 2 (by first | omega | (simp <;> omega))).trans (show _ = some (.int .i64 d1) by first | assumption | go_simp); have q3 := (hx3.cells w.heap.size 3 (by first | omega | (simp <;> omega))).trans (show _ = some (.string sx) by first | assumption | go_simp); have q4 := (hx3.cells w.heap.size 4 (by first | omega | (simp <;> omega))).trans (show _ = some (.slice a2 n2 c2) by first | assumption | go_simp); have q5 := (hx3.cells w.heap.size 5 (by first | omega | (simp <;> omega))).trans (show _ = some (.int .i64 d2) by first | assumption | go_simp); have q6 := (hx3.cells w.heap.size 6 (by first | omega | (simp <;> omega))).trans (show _ = some (.int .i64 dn) by first | assumption | go_simp); clear hv3 hi3)) | (at_builtin; go_must (refine wpList_appAll gMk rfl (.tmp 17) (.tmp 23) 23 rfl wb.heap.size 47 i0 _ 2 32 Tryz.underlying23 HJ.out HZ0.out HZ1.out HZ2.out rfl (by omega) (F := fun j => wb.heap.size ≤ j) (G := fun j => wr.heap.size ≤ j) (.slice a5 q.length c5) q rfl (osl_ext gMk HO.out extA) _ [am] rfl (cm_one (RSl.more gStp (fun j hj _ => (show wr.heap.size ≤ j by first | omega | (simp at hj; omega))) ((c_path HM3.out).ext gStp extA)) HI3.out (by first | assumption | go_simp) (by first | assumption | go_simp) (by first | omega | (simp <;> omega)) (by first | omega | (simp <;> omega))) one_mk (fun j hj _ => ⟨by omega, fun e => by have := HOL.out j e.symm; omega⟩) (c_len hq) (cm_byt hq) (by first | omega | (simp <;> omega)) ?_; intro v9 w9 hown9 hg9 hat9; obtain ⟨a9, n9, c9, rfl⟩ := osl_slice hown9; have hx9 : Ext wb w9 := ext_grow (ext_trans HXB.out extA) hg9 (fun j hj => (HOL.out j hj).1); have HV9 := hown9)))
        go_roundw
        case rel => exact ⟨k + 1, by omega, by go_num, Lib.hid (by rw [HEX.out]; exact HV9), hx9⟩
        case measure => simp [intOf]; omega
      · have hkn : k = sx.size := by omega
        subst hkn
        have HF := Lib.hid (osl_rsl gMk HO.out (G := fun j => w.heap.size ≤ j) (fun j hj _ => by omega) (fun j hj => by omega))
        go_wp2
        go_ret
        exact ⟨_, rfl, HF.out, HX.out⟩
  · obtain ⟨_, hc2, ⟨n, hn0, hn1, hn2⟩, _, _, _⟩ := deed_take hc hkd
    simp only at hc2 hn0
    have hE : marksD ⟨dk, ((p1, d1), sx.data.toList), (p2, d2), dn⟩ = marksN (p2, d2) n := by unfold marksD; rw [if_neg hkd, hn0]; try simp
    rw [hE]
    have hkk : (dk == 1) = false := by simpa using hkd
    subst hn0
    have HAF := Lib.hid (fun (k : Nat) (hk : k < n) (W : World) (hx : Ext w W) => afterOf_any (k := (k : Int)) (HM2.out W hx) (check_len hc2) (check_ne hc2) (check_digit hc2) (check_clock hc2) ⟨by omega, by omega⟩)
    clear hE hc hc2 HM1 HM2 hkd
    go_enter Tryz.func114, Tryz.ntmps114
    go_wp2_with fail
    refine wp_name (fun wb ewb => ?_)
    have b0 : wb.cell? ⟨w.heap.size, 0, none⟩ = some (.int .i64 dk) := by rw [ewb]; go_simp
    have b1 : wb.cell? ⟨w.heap.size, 1, none⟩ = some (.slice a1 n1 c1) := by rw [ewb]; go_simp
    have b2 : wb.cell? ⟨w.heap.size, 2, none⟩ = some (.int .i64 d1) := by rw [ewb]; go_simp
    have b3 : wb.cell? ⟨w.heap.size, 3, none⟩ = some (.string sx) := by rw [ewb]; go_simp
    have b4 : wb.cell? ⟨w.heap.size, 4, none⟩ = some (.slice a2 n2 c2) := by rw [ewb]; go_simp
    have b5 : wb.cell? ⟨w.heap.size, 5, none⟩ = some (.int .i64 d2) := by rw [ewb]; go_simp
    have b6 : wb.cell? ⟨w.heap.size, 6, none⟩ = some (.int .i64 (n : Nat)) := by rw [ewb]; go_simp
    have hbb : w.heap.size < wb.heap.size := by rw [ewb]; first | omega | (simp <;> omega)
    have HWB := Lib.hid (show Ext w wb by rw [ewb]; exact extA)
    clear ewb
    go_loopw [3, 5] (fun ov iv wr => ∃ k : Nat, k ≤ n ∧ iv = .int .i64 k ∧ Hid (OSl RMk 2 47 wb.heap.size (fun j => wb.heap.size ≤ j) wr ov (marksN (p2, d2) k)) ∧ Ext wb wr) (fun _ iv _ => n - (intOf iv).toNat)
    case atStart => exact ⟨0, Nat.zero_le _, rfl, Lib.hid osl_nil, ext_refl _⟩
    case round =>
      obtain ⟨k, hk, rfl, HO, hx⟩ := hrel
      have x0 := (hx.cells w.heap.size 0 hbb).trans b0
      have x1 := (hx.cells w.heap.size 1 hbb).trans b1
      have x2 := (hx.cells w.heap.size 2 hbb).trans b2
      have x3 := (hx.cells w.heap.size 3 hbb).trans b3
      have x4 := (hx.cells w.heap.size 4 hbb).trans b4
      have x5 := (hx.cells w.heap.size 5 hbb).trans b5
      have x6 := (hx.cells w.heap.size 6 hbb).trans b6
      have hzr := hx.size
      have HXB := Lib.hid hx
      have HX := Lib.hid (ext_trans HWB.out hx)
      have hbr : w.heap.size < wr.heap.size := by omega
      clear hx b0 b1 b2 b3 b4 b5 b6
      obtain ⟨a5, n5, c5, rfl⟩ := osl_slice HO.out
      have HOL := Lib.hid (osl_lt HO.out)
      have hq : (marksN (p2, d2) k).length ≤ 1000 := by rw [marksN_len]; omega
      obtain rfl : n5 = (marksN (p2, d2) k).length := (osl_len HO.out).1
      by_cases hlt : k < n
      · have HA := Lib.hid (HAF.out k hlt)
        have HEX := Lib.hid (marksN_snoc (p2, d2) k)
        generalize marksN (p2, d2) k = q at *
        generalize afterM (p2, d2) (k : Int) = am at *
        go_wp2_with (first | (go_at_call 122; go_must ((with_reducible refine (HA.out _ (ext_trans HX.out extA)).mono ?_); rintro e w3 ⟨cs3, rfl, hm3, hx3⟩; have HM3 := Lib.hid (omk_mk hm3); obtain ⟨v3, rfl, hv3, hi3⟩ := hm3; obtain ⟨a3, n3, c3, rfl⟩ := osl_slice hv3; have HI3 := Lib.hid hi3; have hs3 := hx3.size; (try simp at hs3); have hb3 : w.heap.size < w3.heap.size := (by omega); have q0 := (hx3.cells w.heap.size 0 (by first | omega | (simp <;> omega))).trans (show _ = some (.int .i64 dk) by first | assumption | go_simp); have q1 := (hx3.cells w.heap.size 1 (by first | omega | (simp <;> omega))).trans (show _ = some (.slice a1 n1 c1) by first | assumption | go_simp); have q2 := (hx3.cells w.heap.size 2 (by first | omega | (simp <;> omega))).trans (show _ = some (.int .i64 d1) by first | assumption | go_simp); have q3 := (hx3.cells w.heap.size 3 (by first | omega | (simp <;> omega))).trans (show _ = some (.string sx) by first | assumption | go_simp); have q4 := (hx3.cells w.heap.size 4 (by first | omega | (simp <;> omega))).trans (show _ = some (.slice a2 n2 c2) by first | assumption | go_simp); have q5 := (hx3.cells w.heap.size 5 (by first | omega | (simp <;> omega))).trans (show _ = some (.int .i64 d2) by first | assumption | go_simp); have q6 := (hx3.cells w.heap.size 6 (by first | omega | (simp <;> omega))).trans (show _ = some (.int .i64 (n : Nat)) by first | assumption | go_simp); clear hv3 hi3)) | (at_builtin; go_must (refine wpList_appAll gMk rfl (.tmp 32) (.tmp 37) 23 rfl wb.heap.size 47 i0 _ 2 32 Tryz.underlying23 HJ.out HZ0.out HZ1.out HZ2.out rfl (by omega) (F := fun j => wb.heap.size ≤ j) (G := fun j => wr.heap.size ≤ j) (.slice a5 q.length c5) q rfl (osl_ext gMk HO.out extA) _ [am] rfl (cm_one (RSl.more gStp (fun j hj _ => (show wr.heap.size ≤ j by first | omega | (simp at hj; omega))) ((c_path HM3.out).ext gStp extA)) HI3.out (by first | assumption | go_simp) (by first | assumption | go_simp) (by first | omega | (simp <;> omega)) (by first | omega | (simp <;> omega))) one_mk (fun j hj _ => ⟨by omega, fun e => by have := HOL.out j e.symm; omega⟩) (c_len hq) (cm_byt hq) (by first | omega | (simp <;> omega)) ?_; intro v9 w9 hown9 hg9 hat9; obtain ⟨a9, n9, c9, rfl⟩ := osl_slice hown9; have hx9 : Ext wb w9 := ext_grow (ext_trans HXB.out extA) hg9 (fun j hj => (HOL.out j hj).1); have HV9 := hown9)))
        go_roundw
        case rel => exact ⟨k + 1, by omega, by go_num, Lib.hid (by rw [HEX.out]; exact HV9), hx9⟩
        case measure => simp [intOf]; omega
      · obtain rfl : k = n := by omega
        have HF := Lib.hid (osl_rsl gMk HO.out (G := fun j => w.heap.size ≤ j) (fun j hj _ => by omega) (fun j hj => by omega))
        go_wp2
        go_ret
        exact ⟨_, rfl, HF.out, HX.out⟩
end Go.Proofs.YtfgfdohppgoajaaGreat
/- One atom more, by the document. -/
namespace Go.Proofs.YtfgfdohppgoajaaGreat
open Go Go.RowKit Go.BigFrame Cp

def IsAtAny (l : List At) (w : World) (e : Ending) (w' : World) : Prop := ∃ v, e = .returned v ∧ RSl RAt 3 (fun _ => True) w' v l ∧ Ext w w'
theorem same_at {w wr : World} {b o b' o' k : Nat} {l : List At} {p p' : List Stp} {d d' : Int} {s s' : UInt8} {ap ap' : Option Addr} {cp cp' : Nat} (h : (some ⟨b, o, none⟩ : Option Addr) = some ⟨b', o', none⟩) (hb : b' < w.heap.size) (hx : Ext w wr)
    (e : l[k]? = some ((p, d), s)) (e' : l[k]? = some ((p', d'), s')) (y : wr.cell? ⟨b, o + k * 3, none⟩ = some (.slice ap p.length cp)) (g : w.cell? ⟨b', o' + k * 3, none⟩ = some (.slice ap' p'.length cp')) : p = p' ∧ ap = ap' ∧ cp = cp' := by
  simp at h
  obtain ⟨rfl, rfl⟩ := h
  rw [e] at e'
  rw [hx.cells _ _ hb, g] at y
  simp at e' y
  exact ⟨e'.1.1, y.1.symm, y.2.2.symm⟩
theorem sortedA_drop : ∀ (k : Nat) {l : List At}, SortedA l → SortedA (l.drop k)
  | 0, _, h => by simpa using h
  | k + 1, [], _ => by simp [SortedA]
  | k + 1, x :: r, h => by simpa using sortedA_drop k (sortedA_tail h)
set_option maxRecDepth 100000 in
set_option maxHeartbeats 4000000 in
theorem docPut_any {F G : Nat → Prop} {w : World} {v : Value} {ds : List Value} {l : List At} {a : At} (h : RSl RAt 3 F w v l) (ka : RAt G w ds a) (hs : SortedA l) (hl : l.length ≤ 900) :
    Calls Tryz.prog 116 #[v, .agg ds.toArray] w (IsAtAny (putA l a) w) := by
  have h0 : RSl RAt 3 (fun j => j < w.heap.size) w v l := RSl.more gAt (fun _ _ hk => hk) h
  clear h
  have HL := Lib.hid (fun (W : World) (hx : Ext w W) => h0.ext gAt hx)
  have HSO := Lib.hid hs
  obtain ⟨a0, n0, c0, rfl⟩ := h0.slice
  obtain rfl : n0 = l.length := h0.len.1
  obtain ⟨u, rfl, hu, hui⟩ := ka
  obtain ⟨⟨pa, da⟩, sa⟩ := a
  simp only at hu hui ⊢
  have hu' : RSl RStp 2 (fun j => j < w.heap.size) w u pa := RSl.more gStp (fun _ _ hk => hk) hu
  have HPA := Lib.hid (fun (W : World) (hx : Ext w W) => hu'.ext gStp hx)
  have HIA := Lib.hid hui
  obtain ⟨aa, na, ca, rfl⟩ := hu'.slice
  obtain rfl : na = pa.length := hu'.len.1
  obtain ⟨i0, hi0, hz0, hz1', hz2⟩ := info_parts c_info
  have HJ := Lib.hid hi0
  have HZ0 := Lib.hid hz0
  have HZ1 := Lib.hid hz1'
  have HZ2 := Lib.hid hz2
  clear h0 hu hu' hui hs hi0 hz0 hz1' hz2
  go_enter Tryz.func116, Tryz.ntmps116
  go_wp2
  refine wp_name (fun wb ewb => ?_)
  have b0 : wb.cell? ⟨w.heap.size, 0, none⟩ = some (.slice aa pa.length ca) := by rw [ewb]; go_simp
  have b1 : wb.cell? ⟨w.heap.size, 1, none⟩ = some (.int .i64 da) := by rw [ewb]; go_simp
  have b2 : wb.cell? ⟨w.heap.size, 2, none⟩ = some (.int .u8 sa.toNat) := by rw [ewb]; go_simp
  have hbb : w.heap.size < wb.heap.size := by rw [ewb]; simp
  have hwb : Ext w wb := by rw [ewb]; exact extA
  have HWB := Lib.hid hwb
  clear ewb hwb
  go_loopw [5, 6, 7] (fun ov pv iv wr => ∃ (k : Nat) (out : List At) (put : Bool), k ≤ l.length ∧ iv = .int .i64 k ∧ pv = .bool put ∧ Hid (OSl RAt 3 83 wb.heap.size (fun _ => True) wr ov out) ∧ Hid (DocPut l ((pa, da), sa) k out put) ∧ Ext wb wr) (fun _ _ iv _ => l.length - (intOf iv).toNat)
  case atStart => exact ⟨0, [], false, Nat.zero_le _, rfl, rfl, Lib.hid osl_nil, Lib.hid (docPut_start _ _), ext_refl _⟩
  case round =>
    obtain ⟨k, out, put, hk, rfl, rfl, HO, HD, hx⟩ := hrel
    have x0 := (hx.cells w.heap.size 0 hbb).trans b0
    have x1 := (hx.cells w.heap.size 1 hbb).trans b1
    have x2 := (hx.cells w.heap.size 2 hbb).trans b2
    have hzr := hx.size
    have HXB := Lib.hid hx
    have HX := Lib.hid (ext_trans HWB.out hx)
    have hbr : w.heap.size < wr.heap.size := by omega
    clear hx b0 b1 b2
    obtain ⟨a5, n5, c5, rfl⟩ := osl_slice HO.out
    obtain rfl : n5 = out.length := (osl_len HO.out).1
    have hol : out.length ≤ 1000 := by have := HD.out.2.2.1; omega
    have hol2 : (out ++ [((pa, da), sa)]).length ≤ 1000 := by rw [List.length_append, List.length_singleton]; have := HD.out.2.2.1; omega
    have HOL := Lib.hid (osl_lt HO.out)
    by_cases hlt : k < l.length
    · obtain ⟨b, o, p, d, s, ap, cp, rfl, hb, ek, ick, hpp, y0, y1, y2⟩ := atm_at (HL.out wr HX.out) hlt
      have HPP := Lib.hid (fun (W : World) (hx : Ext wr W) => hpp.ext gStp hx)
      have HIC := Lib.hid ick
      have HOR := Lib.hid (fun (W : World) (hx : Ext wr W) => orderOf_any (rmk_of' (hpp.ext gStp hx) ick) (rmk_of' (HPA.out _ (ext_trans HX.out hx)) HIA.out))
      have hnb : ¬ b = wr.heap.size := by omega
      have hnw : ¬ w.heap.size = wr.heap.size := by omega
      have hnw' : ¬ wr.heap.size = w.heap.size := by omega
      obtain ⟨b', o', p', d', s', ap', cp', eb', hb0, ek', _, hppw, g0, _⟩ := atm_at (HL.out w (ext_refl _)) hlt
      have hpe : p = p' ∧ ap = ap' ∧ cp = cp' := same_at eb' hb0 HX.out ek ek' y0 g0
      obtain ⟨rfl, rfl, rfl⟩ := hpe
      clear ick hpp eb' ek' g0
      cases put with
      | true =>
        obtain ⟨h1, h2⟩ := docPut_put HD.out ek
        have HE := Lib.hid h2
        simp only at h1
        rw [h1] at HOR
        clear ek h1 h2 HD
        have HMK1 : True := trivial
        have HMK2 : True := trivial
        go_wp2_with (first
          | (go_at_call 96; go_must ((with_reducible refine (HOR.out _ extA).mono ?_); rintro e w2 ⟨rfl, hx2⟩; have hz2 := hx2.size; (try simp at hz2); have hb2 : wr.heap.size < w2.heap.size := (by omega); have q0 := (hx2.cells (w.heap.size) (0) (by first | omega | (simp <;> omega))).trans (show _ = some (.slice aa pa.length ca) by first | assumption | go_simp); have q1 := (hx2.cells (w.heap.size) (1) (by first | omega | (simp <;> omega))).trans (show _ = some (.int .i64 da) by first | assumption | go_simp); have q2 := (hx2.cells (w.heap.size) (2) (by first | omega | (simp <;> omega))).trans (show _ = some (.int .u8 sa.toNat) by first | assumption | go_simp); have q3 := (hx2.cells (wr.heap.size) (0) (by first | omega | (simp <;> omega))).trans (show _ = some (.slice ap p.length cp) by first | assumption | go_simp); have q4 := (hx2.cells (wr.heap.size) (1) (by first | omega | (simp <;> omega))).trans (show _ = some (.int .i64 d) by first | assumption | go_simp); have q5 := (hx2.cells (wr.heap.size) (2) (by first | omega | (simp <;> omega))).trans (show _ = some (.int .u8 s.toNat) by first | assumption | go_simp); have qf0 := (hx2.frz (wr.heap.size) (2) (by first | omega | (simp <;> omega))).trans (show _ = false by first | assumption | go_simp)))
          | (at_builtin; (clear HMK1); go_must (refine wpList_appAll gAt rfl (.tmp 45) (.tmp 47) 22 rfl wb.heap.size 83 i0 _ 3 40 Tryz.underlying22 HJ.out HZ0.out HZ1.out HZ2.out rfl (by omega) (F := fun _ => True) (G := fun j => j < w.heap.size ∨ wr.heap.size ≤ j) (.slice a5 out.length c5) out rfl (osl_ext gAt HO.out extA) _ [((p, d), s)] rfl (c_one (RSl.more gStp (fun j hj _ => Or.inl hj) (HPP.out _ extA)) HIC.out (by first | assumption | go_simp) (by first | assumption | go_simp) (by first | assumption | go_simp) (Or.inr (by first | omega | (simp <;> omega))) (by first | omega | (simp <;> omega))) one_at (fun j hj _ => ⟨trivial, fun e => by have := HOL.out j e.symm; rcases hj with h | h <;> omega⟩) (c_len hol) (c_byt hol) (by first | omega | (simp <;> omega)) ?_; intro v9 w9 hown9 hg9 hat9; obtain ⟨a9, n9, c9, rfl⟩ := osl_slice hown9; have hx9 : Ext wb w9 := ext_grow (ext_trans HXB.out extA) hg9 (fun j hj => (HOL.out j hj).1); have HV9 := Lib.hid hown9)))
        go_roundw
        case rel => exact ⟨k + 1, _, true, by omega, by go_num, rfl, HV9, HE, hx9⟩
        case measure => simp [intOf]; omega
      | false =>
        rcases ordM_range (p, d) (pa, da) with h1 | h1 | h1
        · have HE := Lib.hid (docPut_less HD.out ek h1)
          rw [h1] at HOR
          clear ek h1 HD
          have HMK1 : True := trivial
          have HMK2 : True := trivial
          go_wp2_with (first
            | (go_at_call 96; go_must ((with_reducible refine (HOR.out _ extA).mono ?_); rintro e w2 ⟨rfl, hx2⟩; have hz2 := hx2.size; (try simp at hz2); have hb2 : wr.heap.size < w2.heap.size := (by omega); have q0 := (hx2.cells (w.heap.size) (0) (by first | omega | (simp <;> omega))).trans (show _ = some (.slice aa pa.length ca) by first | assumption | go_simp); have q1 := (hx2.cells (w.heap.size) (1) (by first | omega | (simp <;> omega))).trans (show _ = some (.int .i64 da) by first | assumption | go_simp); have q2 := (hx2.cells (w.heap.size) (2) (by first | omega | (simp <;> omega))).trans (show _ = some (.int .u8 sa.toNat) by first | assumption | go_simp); have q3 := (hx2.cells (wr.heap.size) (0) (by first | omega | (simp <;> omega))).trans (show _ = some (.slice ap p.length cp) by first | assumption | go_simp); have q4 := (hx2.cells (wr.heap.size) (1) (by first | omega | (simp <;> omega))).trans (show _ = some (.int .i64 d) by first | assumption | go_simp); have q5 := (hx2.cells (wr.heap.size) (2) (by first | omega | (simp <;> omega))).trans (show _ = some (.int .u8 s.toNat) by first | assumption | go_simp); have qf0 := (hx2.frz (wr.heap.size) (2) (by first | omega | (simp <;> omega))).trans (show _ = false by first | assumption | go_simp)))
            | (at_builtin; (clear HMK1); go_must (refine wpList_appAll gAt rfl (.tmp 45) (.tmp 47) 22 rfl wb.heap.size 83 i0 _ 3 40 Tryz.underlying22 HJ.out HZ0.out HZ1.out HZ2.out rfl (by omega) (F := fun _ => True) (G := fun j => j < w.heap.size ∨ wr.heap.size ≤ j) (.slice a5 out.length c5) out rfl (osl_ext gAt HO.out extA) _ [((p, d), s)] rfl (c_one (RSl.more gStp (fun j hj _ => Or.inl hj) (HPP.out _ extA)) HIC.out (by first | assumption | go_simp) (by first | assumption | go_simp) (by first | assumption | go_simp) (Or.inr (by first | omega | (simp <;> omega))) (by first | omega | (simp <;> omega))) one_at (fun j hj _ => ⟨trivial, fun e => by have := HOL.out j e.symm; rcases hj with h | h <;> omega⟩) (c_len hol) (c_byt hol) (by first | omega | (simp <;> omega)) ?_; intro v9 w9 hown9 hg9 hat9; obtain ⟨a9, n9, c9, rfl⟩ := osl_slice hown9; have hx9 : Ext wb w9 := ext_grow (ext_trans HXB.out extA) hg9 (fun j hj => (HOL.out j hj).1); have HV9 := Lib.hid hown9)))
          go_roundw
          case rel => exact ⟨k + 1, _, false, by omega, by go_num, rfl, HV9, HE, hx9⟩
          case measure => simp [intOf]; omega
        · have HE := Lib.hid (docPut_same (sortedA_drop k HSO.out) HD.out ek h1)
          rw [h1] at HOR
          simp only at HE
          by_cases hsg : sa < s
          · have t1 : decide (sa.toNat < s.toNat) = true := decide_eq_true (UInt8.lt_iff_toNat_lt.1 hsg)
            have t2 : decide (((sa.toNat : Nat) : Int) < ((s.toNat : Nat) : Int)) = true := decide_eq_true (Int.ofNat_lt.2 (UInt8.lt_iff_toNat_lt.1 hsg))
            rw [show mnS s sa = sa from if_pos hsg] at HE
            clear ek h1 HD hsg
            have HMK1 : True := trivial
            have HMK2 : True := trivial
            go_wp2_with (first
              | (go_at_call 96; go_must ((with_reducible refine (HOR.out _ extA).mono ?_); rintro e w2 ⟨rfl, hx2⟩; have hz2 := hx2.size; (try simp at hz2); have hb2 : wr.heap.size < w2.heap.size := (by omega); have q0 := (hx2.cells (w.heap.size) (0) (by first | omega | (simp <;> omega))).trans (show _ = some (.slice aa pa.length ca) by first | assumption | go_simp); have q1 := (hx2.cells (w.heap.size) (1) (by first | omega | (simp <;> omega))).trans (show _ = some (.int .i64 da) by first | assumption | go_simp); have q2 := (hx2.cells (w.heap.size) (2) (by first | omega | (simp <;> omega))).trans (show _ = some (.int .u8 sa.toNat) by first | assumption | go_simp); have q3 := (hx2.cells (wr.heap.size) (0) (by first | omega | (simp <;> omega))).trans (show _ = some (.slice ap p.length cp) by first | assumption | go_simp); have q4 := (hx2.cells (wr.heap.size) (1) (by first | omega | (simp <;> omega))).trans (show _ = some (.int .i64 d) by first | assumption | go_simp); have q5 := (hx2.cells (wr.heap.size) (2) (by first | omega | (simp <;> omega))).trans (show _ = some (.int .u8 s.toNat) by first | assumption | go_simp); have qf0 := (hx2.frz (wr.heap.size) (2) (by first | omega | (simp <;> omega))).trans (show _ = false by first | assumption | go_simp)))
              | (at_builtin; (clear HMK1); go_must (refine wpList_appAll gAt rfl (.tmp 45) (.tmp 47) 22 rfl wb.heap.size 83 i0 _ 3 40 Tryz.underlying22 HJ.out HZ0.out HZ1.out HZ2.out rfl (by omega) (F := fun _ => True) (G := fun j => j < w.heap.size ∨ wr.heap.size ≤ j) (.slice a5 out.length c5) out rfl (osl_ext gAt HO.out extA) _ [((p, d), sa)] rfl (c_one (RSl.more gStp (fun j hj _ => Or.inl hj) (HPP.out _ extA)) HIC.out (by first | assumption | go_simp) (by first | assumption | go_simp) (by first | assumption | go_simp) (Or.inr (by first | omega | (simp <;> omega))) (by first | omega | (simp <;> omega))) one_at (fun j hj _ => ⟨trivial, fun e => by have := HOL.out j e.symm; rcases hj with h | h <;> omega⟩) (c_len hol) (c_byt hol) (by first | omega | (simp <;> omega)) ?_; intro v9 w9 hown9 hg9 hat9; obtain ⟨a9, n9, c9, rfl⟩ := osl_slice hown9; have hx9 : Ext wb w9 := ext_grow (ext_trans HXB.out extA) hg9 (fun j hj => (HOL.out j hj).1); have HV9 := Lib.hid hown9)))
            go_roundw
            case rel => exact ⟨k + 1, _, true, by omega, by go_num, rfl, HV9, HE, hx9⟩
            case measure => simp [intOf]; omega
          · have t1 : decide (sa.toNat < s.toNat) = false := decide_eq_false (fun h9 => hsg (UInt8.lt_iff_toNat_lt.2 h9))
            have t2 : decide (((sa.toNat : Nat) : Int) < ((s.toNat : Nat) : Int)) = false := decide_eq_false (fun h9 => hsg (UInt8.lt_iff_toNat_lt.2 (Int.ofNat_lt.1 h9)))
            rw [show mnS s sa = s from if_neg hsg] at HE
            clear ek h1 HD hsg
            have HMK1 : True := trivial
            have HMK2 : True := trivial
            go_wp2_with (first
              | (go_at_call 96; go_must ((with_reducible refine (HOR.out _ extA).mono ?_); rintro e w2 ⟨rfl, hx2⟩; have hz2 := hx2.size; (try simp at hz2); have hb2 : wr.heap.size < w2.heap.size := (by omega); have q0 := (hx2.cells (w.heap.size) (0) (by first | omega | (simp <;> omega))).trans (show _ = some (.slice aa pa.length ca) by first | assumption | go_simp); have q1 := (hx2.cells (w.heap.size) (1) (by first | omega | (simp <;> omega))).trans (show _ = some (.int .i64 da) by first | assumption | go_simp); have q2 := (hx2.cells (w.heap.size) (2) (by first | omega | (simp <;> omega))).trans (show _ = some (.int .u8 sa.toNat) by first | assumption | go_simp); have q3 := (hx2.cells (wr.heap.size) (0) (by first | omega | (simp <;> omega))).trans (show _ = some (.slice ap p.length cp) by first | assumption | go_simp); have q4 := (hx2.cells (wr.heap.size) (1) (by first | omega | (simp <;> omega))).trans (show _ = some (.int .i64 d) by first | assumption | go_simp); have q5 := (hx2.cells (wr.heap.size) (2) (by first | omega | (simp <;> omega))).trans (show _ = some (.int .u8 s.toNat) by first | assumption | go_simp); have qf0 := (hx2.frz (wr.heap.size) (2) (by first | omega | (simp <;> omega))).trans (show _ = false by first | assumption | go_simp)))
              | (at_builtin; (clear HMK1); go_must (refine wpList_appAll gAt rfl (.tmp 45) (.tmp 47) 22 rfl wb.heap.size 83 i0 _ 3 40 Tryz.underlying22 HJ.out HZ0.out HZ1.out HZ2.out rfl (by omega) (F := fun _ => True) (G := fun j => j < w.heap.size ∨ wr.heap.size ≤ j) (.slice a5 out.length c5) out rfl (osl_ext gAt HO.out extA) _ [((p, d), s)] rfl (c_one (RSl.more gStp (fun j hj _ => Or.inl hj) (HPP.out _ extA)) HIC.out (by first | assumption | go_simp) (by first | assumption | go_simp) (by first | assumption | go_simp) (Or.inr (by first | omega | (simp <;> omega))) (by first | omega | (simp <;> omega))) one_at (fun j hj _ => ⟨trivial, fun e => by have := HOL.out j e.symm; rcases hj with h | h <;> omega⟩) (c_len hol) (c_byt hol) (by first | omega | (simp <;> omega)) ?_; intro v9 w9 hown9 hg9 hat9; obtain ⟨a9, n9, c9, rfl⟩ := osl_slice hown9; have hx9 : Ext wb w9 := ext_grow (ext_trans HXB.out extA) hg9 (fun j hj => (HOL.out j hj).1); have HV9 := Lib.hid hown9)))
            go_roundw
            case rel => exact ⟨k + 1, _, true, by omega, by go_num, rfl, HV9, HE, hx9⟩
            case measure => simp [intOf]; omega
        · have HE := Lib.hid (docPut_new (sortedA_drop k HSO.out) HD.out ek h1)
          rw [h1] at HOR
          have HPQ := Lib.hid (fun (W : World) (hx : Ext w W) => hppw.ext gStp hx)
          clear ek h1 HD
          have HMK1 : True := trivial
          have HMK2 : True := trivial
          go_wp2_with (first
            | (go_at_call 96; go_must ((with_reducible refine (HOR.out _ extA).mono ?_); rintro e w2 ⟨rfl, hx2⟩; have hz2 := hx2.size; (try simp at hz2); have hb2 : wr.heap.size < w2.heap.size := (by omega); have q0 := (hx2.cells (w.heap.size) (0) (by first | omega | (simp <;> omega))).trans (show _ = some (.slice aa pa.length ca) by first | assumption | go_simp); have q1 := (hx2.cells (w.heap.size) (1) (by first | omega | (simp <;> omega))).trans (show _ = some (.int .i64 da) by first | assumption | go_simp); have q2 := (hx2.cells (w.heap.size) (2) (by first | omega | (simp <;> omega))).trans (show _ = some (.int .u8 sa.toNat) by first | assumption | go_simp); have q3 := (hx2.cells (wr.heap.size) (0) (by first | omega | (simp <;> omega))).trans (show _ = some (.slice ap p.length cp) by first | assumption | go_simp); have q4 := (hx2.cells (wr.heap.size) (1) (by first | omega | (simp <;> omega))).trans (show _ = some (.int .i64 d) by first | assumption | go_simp); have q5 := (hx2.cells (wr.heap.size) (2) (by first | omega | (simp <;> omega))).trans (show _ = some (.int .u8 s.toNat) by first | assumption | go_simp); have qf0 := (hx2.frz (wr.heap.size) (2) (by first | omega | (simp <;> omega))).trans (show _ = false by first | assumption | go_simp)))
            | (at_builtin; (clear HMK1); go_must (refine wpList_appAll gAt rfl (.tmp 31) (.tmp 33) 22 rfl wb.heap.size 83 i0 _ 3 40 Tryz.underlying22 HJ.out HZ0.out HZ1.out HZ2.out rfl (by omega) (F := fun _ => True) (G := fun j => j < w.heap.size ∨ wr.heap.size ≤ j) (.slice a5 out.length c5) out rfl (osl_ext gAt HO.out extA) _ [((pa, da), sa)] rfl (c_one (RSl.more gStp (fun j hj _ => Or.inl hj) (HPA.out _ (ext_trans HX.out extA))) HIA.out (by first | assumption | go_simp) (by first | assumption | go_simp) (by first | assumption | go_simp) (Or.inr (by first | omega | (simp <;> omega))) (by first | omega | (simp <;> omega))) one_at (fun j hj _ => ⟨trivial, fun e => by have := HOL.out j e.symm; rcases hj with h | h <;> omega⟩) (c_len hol) (c_byt hol) (by first | omega | (simp <;> omega)) ?_; intro v8 w8 hown8 hg8 hat8; obtain ⟨a8, n8, c8, rfl⟩ := osl_slice hown8; have HOL8 := Lib.hid (osl_lt hown8); have hx8 : Ext wb w8 := ext_grow (ext_trans HXB.out extA) hg8 (fun j hj => (HOL.out j hj).1); have hz8 := hg8.size; (try simp at hz8); have hx8w : Ext w w8 := ext_trans HWB.out hx8; have hb8 : wr.heap.size < w8.heap.size := (by omega); have r0 := hg8.cell (a := ⟨wr.heap.size, 0, none⟩) (v := .slice ap p.length cp) (by first | assumption | go_simp) (fun e => absurd (HOL.out _ e.symm).2 (Nat.lt_irrefl _)); have r1 := hg8.cell (a := ⟨wr.heap.size, 1, none⟩) (v := .int .i64 d) (by first | assumption | go_simp) (fun e => absurd (HOL.out _ e.symm).2 (Nat.lt_irrefl _)); have r2 := hg8.cell (a := ⟨wr.heap.size, 2, none⟩) (v := .int .u8 s.toNat) (by first | assumption | go_simp) (fun e => absurd (HOL.out _ e.symm).2 (Nat.lt_irrefl _)); have HV8 := Lib.hid hown8; clear hown8 hg8 hat8))
            | (at_builtin; (clear HMK2); go_must (refine wpList_appAll gAt rfl (.tmp 45) (.tmp 47) 22 rfl wb.heap.size 83 i0 _ 3 40 Tryz.underlying22 HJ.out HZ0.out HZ1.out HZ2.out rfl (by omega) (F := fun _ => True) (G := fun j => j < w.heap.size ∨ w8.heap.size ≤ j) (.slice a8 n8 c8) (out ++ [((pa, da), sa)]) rfl (osl_ext gAt HV8.out extA) _ [((p, d), s)] rfl (c_one (RSl.more gStp (fun j hj _ => Or.inl hj) ((HPQ.out _ (ext_trans hx8w extA)))) HIC.out (by first | assumption | go_simp) (by first | assumption | go_simp) (by first | assumption | go_simp) (Or.inr (by first | omega | (simp <;> omega))) (by first | omega | (simp <;> omega))) one_at (fun j hj _ => ⟨trivial, fun e => by have := HOL8.out j e.symm; rcases hj with h | h <;> omega⟩) (c_len hol2) (c_byt hol2) (by first | omega | (simp <;> omega)) ?_; intro v9 w9 hown9 hg9 hat9; obtain ⟨a9, n9, c9, rfl⟩ := osl_slice hown9; have hx9 : Ext wb w9 := ext_grow (ext_trans hx8 extA) hg9 (fun j hj => (HOL8.out j hj).1); have HV9 := Lib.hid hown9)))
          go_roundw
          case rel => exact ⟨k + 1, _, true, by omega, by go_num, rfl, HV9, HE, hx9⟩
          case measure => simp [intOf]; omega
    · have hkl : k = l.length := by omega
      subst hkl
      have HEN := Lib.hid (docPut_end HD.out)
      cases put with
      | true =>
        have HF := Lib.hid (show RSl RAt 3 (fun _ => True) wr (.slice a5 out.length c5) (putA l ((pa, da), sa)) by
          have h9 := osl_rsl gAt HO.out (G := fun _ => True) (fun _ _ _ => trivial) (fun _ _ => trivial)
          have e9 := HEN.out
          rw [if_pos rfl] at e9
          rw [← e9]; exact h9)
        go_wp2
        go_ret
        exact ⟨_, rfl, HF.out, HX.out⟩
      | false =>
        have e9 := HEN.out
        rw [if_neg (by simp)] at e9
        have HE9 := Lib.hid e9
        clear e9 HEN HD
        have HMK1 : True := trivial
        have HMK2 : True := trivial
        go_wp2_with (first
          | (at_builtin; (clear HMK1); go_must (refine wpList_appAll gAt rfl (.tmp 51) (.tmp 53) 22 rfl wb.heap.size 83 i0 _ 3 40 Tryz.underlying22 HJ.out HZ0.out HZ1.out HZ2.out rfl (by omega) (F := fun _ => True) (G := fun j => j < w.heap.size ∨ wr.heap.size ≤ j) (.slice a5 out.length c5) out rfl (osl_ext gAt HO.out extA) _ [((pa, da), sa)] rfl (c_one (RSl.more gStp (fun j hj _ => Or.inl hj) (HPA.out _ (ext_trans HX.out extA))) HIA.out (by first | assumption | go_simp) (by first | assumption | go_simp) (by first | assumption | go_simp) (Or.inr (by first | omega | (simp <;> omega))) (by first | omega | (simp <;> omega))) one_at (fun j hj _ => ⟨trivial, fun e => by have := HOL.out j e.symm; rcases hj with h | h <;> omega⟩) (c_len hol) (c_byt hol) (by first | omega | (simp <;> omega)) ?_; intro v9 w9 hown9 hg9 hat9; obtain ⟨a9, n9, c9, rfl⟩ := osl_slice hown9; have hx9 : Ext wb w9 := ext_grow (ext_trans HXB.out extA) hg9 (fun j hj => (HOL.out j hj).1); have HV9 := Lib.hid hown9)))
        go_ret
        exact ⟨_, rfl, by rw [← HE9.out]; exact osl_rsl gAt HV9.out (G := fun _ => True) (fun _ _ _ => trivial) (fun _ _ => trivial), ext_trans HWB.out hx9⟩
end Go.Proofs.YtfgfdohppgoajaaGreat
/- A state in a box: what lies in cells of other kinds is elsewhere. -/
namespace Go.Proofs.YtfgfdohppgoajaaGreat
open Go Go.RowKit Go.BigFrame Cp

/-- all cells of a block are slices -/
def SlicesAt (w : World) (b : Nat) : Prop := ∀ o y, w.cell? ⟨b, o, none⟩ = some y → ∃ a n c, y = Value.slice a n c
section
variable {w w' : World} {b : Nat}
theorem slices_ext (h : SlicesAt w b) (hx : Ext w w') (hb : b < w.heap.size) : SlicesAt w' b := fun o y e => h o y ((hx.cells b o hb).symm.trans e)
theorem set_same {a : Addr} {u v : Value} (h : w.cell? a = some u) : (w.setCell a v).cell? a = some v := World.cell?_setCell_same w _ _ h
theorem set_other {a b : Addr} {v : Value} (h : a ≠ b) : (w.setCell a v).cell? b = w.cell? b := World.cell?_setCell_other w _ _ _ h
theorem set_none {b o : Nat} {v : Value} (h : w.cell? ⟨b, o, none⟩ = none) : (w.setCell ⟨b, o, none⟩ v).cell? ⟨b, o, none⟩ = none := by
  simp only [World.setCell, World.cell?, Array.getElem?_modify, if_true] at h ⊢
  cases hh : w.heap[b]? with
  | none => simp
  | some x => cases x <;> simp_all
theorem slices_set (h : SlicesAt w b) (p : Addr) (a : Option Addr) (n c : Nat) : SlicesAt (w.setCell p (.slice a n c)) b := fun o y e => by
  by_cases hp : p = ⟨b, o, none⟩
  · subst hp
    cases hc : w.cell? ⟨b, o, none⟩ with
    | none => rw [set_none hc] at e; cases e
    | some x =>
      rw [set_same hc] at e
      cases e
      exact ⟨a, n, c, rfl⟩
  · rw [set_other hp] at e
    exact h o y e
theorem slices_row {te : TypeId} {a a' : Option Addr} {n c n' c' : Nat} (h : w.heap[b]? = some (.cells #[.slice a n c, .slice a' n' c'] te (0, 0))) : SlicesAt w b := fun o y e => by
  have : (#[Value.slice a n c, .slice a' n' c'] : Array Value)[o]? = some y := by simpa [World.cell?, h] using e
  match o, this with
  | 0, e => exact ⟨_, _, _, (by simpa using e : Value.slice a n c = y).symm⟩
  | 1, e => exact ⟨_, _, _, (by simpa using e : Value.slice a' n' c' = y).symm⟩
  | o + 2, e => simp at e
theorem stp_apart {F : Nat → Prop} {v : Value} {l : List Stp} (hb : SlicesAt w b) (h : RSl RStp 2 F w v l) : RSl RStp 2 (fun j => F j ∧ j ≠ b) w v l := by
  obtain ⟨a, cap, e, h1, h2, h3⟩ := h
  refine ⟨a, cap, e, h1, h2, fun hne => ?_⟩
  obtain ⟨b', o, e2, hF, hl, hx⟩ := h3 hne
  have hn : b' ≠ b := by
    rintro rfl
    obtain ⟨x, r, rfl⟩ := List.exists_cons_of_ne_nil hne
    obtain ⟨cs, _, c2, ⟨rfl, _⟩⟩ := hx 0 x rfl
    obtain ⟨a', n', c', e'⟩ := hb _ _ (c2 0 _ rfl)
    cases e'
  exact ⟨b', o, e2, ⟨hF, hn⟩, hl, fun i x hi => hx i x hi⟩
theorem mk_apart {F : Nat → Prop} {v : Value} {l : List Mk} (hb : SlicesAt w b) (h : RSl RMk 2 F w v l) : RSl RMk 2 (fun j => F j ∧ j ≠ b) w v l := by
  obtain ⟨a, cap, e, h1, h2, h3⟩ := h
  refine ⟨a, cap, e, h1, h2, fun hne => ?_⟩
  obtain ⟨b', o, e2, hF, hl, hx⟩ := h3 hne
  have hn : b' ≠ b := by
    rintro rfl
    obtain ⟨x, r, rfl⟩ := List.exists_cons_of_ne_nil hne
    obtain ⟨cs, _, c2, ⟨u, rfl, _⟩⟩ := hx 0 x rfl
    obtain ⟨a', n', c', e'⟩ := hb _ _ (c2 1 _ rfl)
    cases e'
  refine ⟨b', o, e2, ⟨hF, hn⟩, hl, fun i x hi => ?_⟩
  obtain ⟨cs, c1, c2, u, rfl, c3, c4⟩ := hx i x hi
  exact ⟨_, c1, c2, u, rfl, stp_apart hb c3, c4⟩
theorem at_apart {F : Nat → Prop} {v : Value} {l : List At} (hb : SlicesAt w b) (h : RSl RAt 3 F w v l) : RSl RAt 3 (fun j => F j ∧ j ≠ b) w v l := by
  obtain ⟨a, cap, e, h1, h2, h3⟩ := h
  refine ⟨a, cap, e, h1, h2, fun hne => ?_⟩
  obtain ⟨b', o, e2, hF, hl, hx⟩ := h3 hne
  have hn : b' ≠ b := by
    rintro rfl
    obtain ⟨x, r, rfl⟩ := List.exists_cons_of_ne_nil hne
    obtain ⟨cs, _, c2, ⟨u, rfl, _⟩⟩ := hx 0 x rfl
    obtain ⟨a', n', c', e'⟩ := hb _ _ (c2 1 _ rfl)
    cases e'
  refine ⟨b', o, e2, ⟨hF, hn⟩, hl, fun i x hi => ?_⟩
  obtain ⟨cs, c1, c2, u, rfl, c3, c4⟩ := hx i x hi
  exact ⟨_, c1, c2, u, rfl, stp_apart hb c3, c4⟩
theorem at_set {F : Nat → Prop} {v : Value} {l : List At} (hb : SlicesAt w b) (h : RSl RAt 3 F w v l) (o : Nat) (x : Value) : RSl RAt 3 F (w.setCell ⟨b, o, none⟩ x) v l :=
  RSl.more gAt (fun _ h _ => h.1) ((at_apart hb h).keep gAt (keeps_set keeps_refl (fun _ h => h.2 rfl) x))
theorem mk_set {F : Nat → Prop} {v : Value} {l : List Mk} (hb : SlicesAt w b) (h : RSl RMk 2 F w v l) (o : Nat) (x : Value) : RSl RMk 2 F (w.setCell ⟨b, o, none⟩ x) v l :=
  RSl.more gMk (fun _ h _ => h.1) ((mk_apart hb h).keep gMk (keeps_set keeps_refl (fun _ h => h.2 rfl) x))
end
/-- a box with a state -/
structure BoxIs (b : Nat) (t : St) (W : World) (va vu : Value) : Prop where
  c0 : W.cell? ⟨b, 0, none⟩ = some va
  c1 : W.cell? ⟨b, 1, none⟩ = some vu
  fz : ∀ o, W.frozen? ⟨b, o, none⟩ = false
  sl : SlicesAt W b
  at_ : RSl RAt 3 (fun _ => True) W va t.1
  go : RSl RMk 2 (fun _ => True) W vu t.2
section
variable {b b' : Nat} {t : St} {W W' : World} {va vu : Value}
theorem BoxIs.lt (h : BoxIs b t W va vu) : b < W.heap.size := World.block_lt_of_cell? _ _ h.c0
theorem box_ext (h : BoxIs b t W va vu) (hx : Ext W W') : BoxIs b t W' va vu :=
  ⟨(hx.cells _ _ h.lt).trans h.c0, (hx.cells _ _ h.lt).trans h.c1, fun o => (hx.frz _ _ h.lt).trans (h.fz o), slices_ext h.sl hx h.lt, h.at_.ext gAt hx, h.go.ext gMk hx⟩
theorem box_other (h : BoxIs b t W va vu) (hn : b' ≠ b) (hs : SlicesAt W b') (o : Nat) (a : Option Addr) (n c : Nat) : BoxIs b t (W.setCell ⟨b', o, none⟩ (.slice a n c)) va vu := by
  have hne : ∀ k, (⟨b', o, none⟩ : Addr) ≠ ⟨b, k, none⟩ := fun k e => hn (by injection e)
  refine ⟨(set_other (hne 0)).trans h.c0, (set_other (hne 1)).trans h.c1, fun k => ?_, slices_set h.sl _ _ _ _, at_set hs h.at_ o _, mk_set hs h.go o _⟩
  exact (World.frozen?_of_block (a := ⟨b, k, none⟩) (Below.heap_setCell W ⟨b', o, none⟩ _ b (fun e => hn e.symm))).trans (h.fz k)
theorem box_set0 {a : Option Addr} {n c : Nat} {l : List At} (h : BoxIs b t W va vu) (hl : RSl RAt 3 (fun _ => True) W (.slice a n c) l) : BoxIs b (l, t.2) (W.setCell ⟨b, 0, none⟩ (.slice a n c)) (.slice a n c) vu := by
  refine ⟨set_same h.c0, (set_other (by simp)).trans h.c1, fun o => ?_, slices_set h.sl _ _ _ _, at_set h.sl hl 0 _, mk_set h.sl h.go 0 _⟩
  have := h.fz o
  go_simp
theorem box_set1 {a : Option Addr} {n c : Nat} {l : List Mk} (h : BoxIs b t W va vu) (hl : RSl RMk 2 (fun _ => True) W (.slice a n c) l) : BoxIs b (t.1, l) (W.setCell ⟨b, 1, none⟩ (.slice a n c)) va (.slice a n c) := by
  refine ⟨(set_other (by simp)).trans h.c0, set_same h.c1, fun o => ?_, slices_set h.sl _ _ _ _, at_set h.sl h.at_ 1 _, mk_set h.sl hl 1 _⟩
  have := h.fz o
  go_simp
end
end Go.Proofs.YtfgfdohppgoajaaGreat
/- Atoms without what is gone, by the document. -/
namespace Go.Proofs.YtfgfdohppgoajaaGreat
open Go Go.RowKit Go.BigFrame Cp

theorem takeA_len' (l : List At) (ms : List Mk) (k : Nat) (h : l.length ≤ 300) : (takeA (l.take k) ms).length ≤ 1000 := by
  have h1 : (takeA (l.take k) ms).length ≤ (l.take k).length := List.length_filter_le _ _
  rw [List.length_take] at h1; omega
theorem takeA_yes {l : List At} {ms : List Mk} {k : Nat} {a : At} (h : l[k]? = some a) (g : hasG ms a.1 = true) : takeA (l.take (k + 1)) ms = takeA (l.take k) ms := by rw [takeA_step h, g]; simp
theorem takeA_no {l : List At} {ms : List Mk} {k : Nat} {a : At} (h : l[k]? = some a) (g : hasG ms a.1 = false) : takeA (l.take (k + 1)) ms = takeA (l.take k) ms ++ [a] := by rw [takeA_step h, g]; simp
set_option maxRecDepth 100000 in
set_option maxHeartbeats 4000000 in
theorem takeOf_any {F G : Nat → Prop} {w : World} {v u : Value} {l : List At} {ms : List Mk} (h : RSl RAt 3 F w v l) (k0 : RSl RMk 2 G w u ms) (hl3 : l.length ≤ 300) :
    Calls Tryz.prog 117 #[v, u] w (IsAtAny (takeA l ms) w) := by
  have h0 : RSl RAt 3 (fun j => j < w.heap.size) w v l := RSl.more gAt (fun _ _ hk => hk) h
  have HL := Lib.hid (fun (W : World) (hx : Ext w W) => h0.ext gAt hx)
  have HMS := Lib.hid (fun (W : World) (hx : Ext w W) => k0.ext gMk hx)
  obtain ⟨a0, n0, c0, rfl⟩ := h.slice
  obtain rfl : n0 = l.length := h.len.1
  obtain ⟨a1, n1, c1, rfl⟩ := k0.slice
  obtain ⟨i0, hi0, hz0, hz1', hz2⟩ := info_parts c_info
  have HJ := Lib.hid hi0
  have HZ0 := Lib.hid hz0
  have HZ1 := Lib.hid hz1'
  have HZ2 := Lib.hid hz2
  clear h h0 k0 hi0 hz0 hz1' hz2
  go_enter Tryz.func117, Tryz.ntmps117
  go_wp2
  go_loopw [5, 6] (fun ov iv wr => ∃ k : Nat, k ≤ l.length ∧ iv = .int .i64 k ∧ Hid (OSl RAt 3 83 w.heap.size (fun _ => True) wr ov (takeA (l.take k) ms)) ∧ Ext w wr) (fun _ iv _ => l.length - (intOf iv).toNat)
  case atStart => exact ⟨0, Nat.zero_le _, rfl, Lib.hid osl_nil, ext_refl _⟩
  case round =>
    obtain ⟨k, hk, rfl, HO, hx⟩ := hrel
    have hzr := hx.size
    have HX := Lib.hid hx
    clear hx
    obtain ⟨a5, n5, c5, rfl⟩ := osl_slice HO.out
    by_cases hlt : k < l.length
    · obtain ⟨b, o, p, d, s, ap, cp, rfl, hb, ek, ick, hpp, y0, y1, y2⟩ := atm_at (HL.out wr HX.out) hlt
      have HIC := Lib.hid ick
      have HPP := Lib.hid (fun (W : World) (hx : Ext wr W) => hpp.ext gStp hx)
      have HGG := Lib.hid (fun (W : World) (hx : Ext wr W) => hasGone_any (HMS.out W (ext_trans HX.out hx)) (rmk_of' (hpp.ext gStp hx) ick))
      have HOL := Lib.hid (osl_lt HO.out)
      cases hh : hasG ms (p, d) with
      | true =>
        have HEK := Lib.hid (takeA_yes ek hh)
        rw [hh] at HGG
        clear ek ick hpp hh
        go_wp2_with (go_at_call 83; go_must ((with_reducible refine (HGG.out _ extA).mono ?_); rintro e w1 ⟨rfl, hx1⟩; skip))
        go_roundw
        case rel => exact ⟨k + 1, by omega, by go_num, Lib.hid (by rw [HEK.out]; exact osl_ext gAt HO.out hx1), ext_trans HX.out hx1⟩
        case measure => simp [intOf]; omega
      | false =>
        have HEK := Lib.hid (takeA_no ek hh)
        have hql := takeA_len' l ms k hl3
        rw [hh] at HGG
        generalize takeA (l.take k) ms = q at *
        obtain rfl : n5 = q.length := (osl_len HO.out).1
        clear ek ick hpp hh
        go_wp2_with (first
          | (go_at_call 83; go_must ((with_reducible refine (HGG.out _ extA).mono ?_); rintro e w1 ⟨rfl, hx1⟩; have hz1 := hx1.size; (try simp at hz1); have hb1 : b < w1.heap.size := (by omega); have q0 := (hx1.cells (b) (o + k * 3) (by first | omega | (simp <;> omega))).trans (show _ = some (.slice ap p.length cp) by first | assumption | go_simp); have q1 := (hx1.cells (b) (o + k * 3 + 1) (by first | omega | (simp <;> omega))).trans (show _ = some (.int .i64 d) by first | assumption | go_simp); have q2 := (hx1.cells (b) (o + k * 3 + 2) (by first | omega | (simp <;> omega))).trans (show _ = some (.int .u8 s.toNat) by first | assumption | go_simp); have HX1 := Lib.hid hx1))
          | (at_builtin; go_must (refine wpList_appAll gAt rfl (.tmp 21) (.tmp 26) 22 rfl w.heap.size 83 i0 _ 3 40 Tryz.underlying22 HJ.out HZ0.out HZ1.out HZ2.out rfl (by omega) (F := fun _ => True) (G := fun j => j < w.heap.size ∨ w1.heap.size ≤ j) (.slice a5 q.length c5) q rfl (osl_ext gAt HO.out (ext_trans HX1.out extA)) _ [((p, d), s)] rfl (c_one (RSl.more gStp (fun j hj _ => Or.inl hj) (HPP.out _ (ext_trans HX1.out extA))) HIC.out (by first | assumption | go_simp) (by first | assumption | go_simp) (by first | assumption | go_simp) (Or.inr (by first | omega | (simp <;> omega))) (by first | omega | (simp <;> omega))) one_at (fun j hj _ => ⟨trivial, fun e => by have := HOL.out j e.symm; rcases hj with h | h <;> omega⟩) (c_len hql) (c_byt hql) (by first | omega | (simp <;> omega)) ?_; intro v9 w9 hown9 hg9 hat9; obtain ⟨a9, n9, c9, rfl⟩ := osl_slice hown9; have hx9 : Ext w w9 := ext_grow (ext_trans HX.out (ext_trans HX1.out extA)) hg9 (fun j hj => (HOL.out j hj).1); have HV9 := Lib.hid hown9)))
        go_roundw
        case rel => exact ⟨k + 1, by omega, by go_num, Lib.hid (by rw [HEK.out]; exact HV9.out), hx9⟩
        case measure => simp [intOf]; omega
    · have hkl : k = l.length := by omega
      subst hkl
      have HF := Lib.hid (show OSl RAt 3 83 w.heap.size (fun _ => True) wr (.slice a5 n5 c5) (takeA l ms) by have := HO.out; rwa [List.take_of_length_le (Nat.le_refl _)] at this)
      go_wp2
      go_ret
      exact ⟨_, rfl, osl_rsl gAt HF.out (fun _ _ _ => trivial) (fun _ _ => trivial), HX.out⟩
end Go.Proofs.YtfgfdohppgoajaaGreat
/- The gap between two paths: above, below. -/
namespace Go.Proofs.YtfgfdohppgoajaaGreat
open Go Go.RowKit Cp

/-- a gap -/
def IsGap (F : Nat → Prop) (g : Gap) (w : World) (e : Ending) (w' : World) : Prop := ∃ v, e = .returned (.agg #[v, .int .i64 g.least, .int .i64 g.most]) ∧ RSl RStp 2 (fun k => F k ∨ w.heap.size ≤ k) w' v g.path ∧ Ext w w'
theorem rsl_tkW {α : Type} {R : Rd α} {sz F w a n c} {l : List α} (h : RSl R sz F w (.slice a n c) l) {k : Nat} (hk : k ≤ l.length) : RSl R sz F w (.slice a k c) (l.take k) := by
  obtain ⟨a', cap', e, h1, h2, h3⟩ := h
  injection e with e1 e2 e3
  subst e1; subst e2; subst e3
  have hkl : (l.take k).length = k := by rw [List.length_take]; omega
  refine ⟨_, _, by rw [hkl], by omega, h2, fun hne => ?_⟩
  obtain ⟨b, o, e2, hF, hl, hx⟩ := h3 (by rintro rfl; simp at hne)
  refine ⟨b, o, e2, hF, hl, fun i x hi => hx i x ?_⟩
  by_cases hik : i < k
  · rwa [List.getElem?_take_of_lt hik] at hi
  · rw [List.getElem?_eq_none (by omega)] at hi; cases hi
theorem RSl.anyF {sz w v B} {F : Nat → Prop} {l : List Stp} (h : RSl RStp sz F w v l) : RSl RStp sz (fun k => (F k ∧ k < w.heap.size) ∨ B ≤ k) w v l := h.more gStp (fun _ hk hl => .inl ⟨hk, hl⟩)
theorem above_drop {l : List Stp} {k : Nat} {x y : Int} (h : l[k]? = some (x, y)) : aboveL (l.take k) (l.drop k) = if x < 200 then ⟨l.take k, x + 1, 200⟩ else aboveL (l.take (k + 1)) (l.drop (k + 1)) := by
  obtain ⟨a1, b1⟩ := List.getElem?_eq_some_iff.1 h
  rw [List.drop_eq_getElem_cons a1, List.take_succ_eq_append_getElem a1, b1]; rfl
theorem above_end {l : List Stp} {k : Nat} (h : k = l.length) : aboveL (l.take k) (l.drop k) = ⟨l, 1, 200⟩ := by
  subst h; rw [List.drop_eq_nil_of_le (Nat.le_refl _), List.take_of_length_le (Nat.le_refl _)]; rfl
theorem below_drop {l : List Stp} {k : Nat} {x y site : Int} (h : l[k]? = some (x, y)) : belowL site (l.take k) (l.drop k) = if 1 < x then ⟨l.take k, 1, x - 1⟩ else if x = 1 then ⟨l.take k ++ [(0, site)], 1, 200⟩ else belowL site (l.take (k + 1)) (l.drop (k + 1)) := by
  obtain ⟨a1, b1⟩ := List.getElem?_eq_some_iff.1 h
  rw [List.drop_eq_getElem_cons a1, List.take_succ_eq_append_getElem a1, b1]; rfl

set_option maxRecDepth 100000 in
set_option maxHeartbeats 800000 in
theorem above_any {F : Nat → Prop} {w : World} {v : Value} {l : List Stp} {k0 : Nat} (h : RSl RStp 2 F w v l) (hk0 : k0 ≤ l.length) (hok : ∀ s ∈ l, 0 ≤ s.1 ∧ s.1 ≤ 200) :
    Calls Tryz.prog 126 #[v, .int .i64 k0] w (IsGap (fun k => F k ∧ k < w.heap.size) (aboveL (l.take k0) (l.drop k0)) w) := by
  obtain ⟨a1, n1, c1, rfl⟩ := h.slice
  obtain ⟨rfl, k1, k1'⟩ := h.len
  unfold maxLen at k1'
  have q1 : l.length ≤ 9223372036854775807 := by omega
  have q2 : c1 ≤ 9223372036854775807 := by omega
  have q3 : k0 ≤ 9223372036854775807 := by omega
  clear k1'
  have HL := Lib.hid h
  have HOK := Lib.hid hok
  clear h hok
  go_enter Tryz.func126, Tryz.ntmps126
  go_wp2
  go_loopw [5] (fun i wr => ∃ k : Nat, k ≤ l.length ∧ i = .int .i64 k ∧ Hid (aboveL (l.take k0) (l.drop k0) = aboveL (l.take k) (l.drop k)) ∧ Ext (w.alloc (.cells #[.slice none 0 0, .int .i64 0, .int .i64 0] 133)) wr) (fun i _ => l.length - (intOf i).toNat)
  case atStart => exact ⟨k0, by omega, rfl, Lib.hid rfl, ext_refl _⟩
  case round =>
    obtain ⟨k, hk1, rfl, ho, hx⟩ := hrel
    have HW := Lib.hid (ext_trans (ext_alloc (ext_refl _) _) hx)
    have r0 := (hx.cells w.heap.size 0 (by simp <;> omega)).trans (show _ = some (.slice none 0 0) by go_simp)
    have r1 := (hx.cells w.heap.size 1 (by simp <;> omega)).trans (show _ = some (.int .i64 0) by go_simp)
    have r2 := (hx.cells w.heap.size 2 (by simp <;> omega)).trans (show _ = some (.int .i64 0) by go_simp)
    have f0 := (hx.frz w.heap.size 0 (by simp <;> omega)).trans (show _ = false by go_simp)
    have f1 := (hx.frz w.heap.size 1 (by simp <;> omega)).trans (show _ = false by go_simp)
    have f2 := (hx.frz w.heap.size 2 (by simp <;> omega)).trans (show _ = false by go_simp)
    have HX := Lib.hid hx
    clear hx
    by_cases h1 : k < l.length
    · obtain ⟨b1, o1, x1, y1, rfl, hb1, e1, _, _, ca, cb⟩ := stp_at (RSl.ext gStp HL.out HW.out) h1
      have HA := Lib.hid (above_drop e1)
      obtain ⟨d1, d2⟩ := HOK.out _ (List.mem_of_getElem? e1)
      simp only at d1 d2
      clear e1 hb1
      have kc : k ≤ c1 := by omega
      by_cases h2 : x1 < 200
      · have HG := Lib.hid (show aboveL (l.take k0) (l.drop k0) = ⟨l.take k, x1 + 1, 200⟩ by rw [ho.out, HA.out, if_pos h2])
        have hwr : IntKind.i64.wrap (x1 + 1) = x1 + 1 := IntWalk.i64_in _ (by omega)
        go_wp2
        refine still_tail 10 fol (by kernel_rfl) ?_
        simp only [List.take_succ_cons, List.take_zero, List.drop_succ_cons, List.drop_zero]
        repeat still_step
        refine wpStill_nil ?_
        go_wp2
        refine bodyPost_ret (v := .agg #[.slice (some ⟨b1, o1, none⟩) k c1, .int .i64 (x1 + 1), .int .i64 200]) (by simp [results, Tryz.results126, go_sem, r0, r1, r2]) rfl ⟨.slice (some ⟨b1, o1, none⟩) k c1, by rw [HG.out], ?_, (by repeat (first | (with_reducible exact ext_refl _) | (with_reducible refine ext_drew ?_) | (with_reducible refine ext_drewN ?_ _) | (with_reducible refine ext_alloc ?_ _) | (with_reducible refine ext_set ?_ (by first | omega | (simp <;> omega)) _) | (with_reducible refine ext_call ?_ HW.out)))⟩
        rw [HG.out]
        exact rsl_tkW ((RSl.anyF HL.out).ext gStp (by repeat (first | (with_reducible exact ext_refl _) | (with_reducible refine ext_drew ?_) | (with_reducible refine ext_drewN ?_ _) | (with_reducible refine ext_alloc ?_ _) | (with_reducible refine ext_set ?_ (by first | omega | (simp <;> omega)) _) | (with_reducible refine ext_call ?_ HW.out)))) (by omega)
      · have HG := Lib.hid (show aboveL (l.take k0) (l.drop k0) = aboveL (l.take (k + 1)) (l.drop (k + 1)) by rw [ho.out, HA.out, if_neg h2])
        go_wp2
        go_roundw
        case rel => exact ⟨k + 1, by omega, by go_num, HG, HX.out⟩
        case measure => simp [intOf]; omega
    · have HG := Lib.hid (ho.out.trans (above_end (by omega)))
      go_wp2
      refine bodyPost_ret (v := .agg #[.slice a1 l.length c1, .int .i64 1, .int .i64 200]) (by simp [results, Tryz.results126, go_sem, r0, r1, r2]) rfl ⟨.slice a1 l.length c1, by rw [HG.out], ?_, (by repeat (first | (with_reducible exact ext_refl _) | (with_reducible refine ext_drew ?_) | (with_reducible refine ext_drewN ?_ _) | (with_reducible refine ext_alloc ?_ _) | (with_reducible refine ext_set ?_ (by first | omega | (simp <;> omega)) _) | (with_reducible refine ext_call ?_ HW.out)))⟩
      rw [HG.out]
      exact (RSl.anyF HL.out).ext gStp (by repeat (first | (with_reducible exact ext_refl _) | (with_reducible refine ext_drew ?_) | (with_reducible refine ext_drewN ?_ _) | (with_reducible refine ext_alloc ?_ _) | (with_reducible refine ext_set ?_ (by first | omega | (simp <;> omega)) _) | (with_reducible refine ext_call ?_ HW.out)))
end Go.Proofs.YtfgfdohppgoajaaGreat
