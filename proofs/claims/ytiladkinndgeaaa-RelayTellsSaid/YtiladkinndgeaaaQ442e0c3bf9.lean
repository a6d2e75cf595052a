/- What is wrong with a deed, by the document. -/
import Derived.Test.YtiladkinndgeaaaQdac6b4fc49
import Derived.Test.YtiladkinndgeaaaQb63694d9b1
set_option linter.unusedVariables false
set_option linter.unusedSimpArgs false
namespace Go.Proofs.Ytiladkinndgeaaa
open Go Go.RowKit Go.BigFrame Cp

set_option maxRecDepth 100000 in
set_option maxHeartbeats 4000000 in
theorem checkDeed_any {F : Nat → Prop} {w : World} {cs : List Value} {d : De} (h : RDe F w cs d) :
    Calls Try.prog 31 #[.agg cs.toArray] w fun e w' => e = .returned (.int .i64 (checkD d)) ∧ Ext w w' := by
  obtain ⟨v, u, x, rfl, hk, hl, hi, hu, hm, hj, hn⟩ := h
  obtain ⟨kd, ⟨⟨l, c⟩, t⟩, ⟨m, e⟩, mn⟩ := d
  simp only at hk hl hi hu hm hj hn ⊢
  obtain ⟨s, rfl, rfl, hs⟩ := tx_bytes hu
  have HR := Lib.hid (fun (W : World) (hx : Ext w W) => checkRun_any (rrn_of (hl.ext gStp hx) hi hu))
  have HK := Lib.hid (fun (W : World) (hx : Ext w W) => checkMark_any (rmk_of' (hm.ext gStp hx) hj))
  have HN1 := Lib.hid (fun (W : World) (hx : Ext w W) => none_any (rmk_of' (hl.ext gStp hx) hi))
  have HN2 := Lib.hid (fun (W : World) (hx : Ext w W) => none_any (rmk_of' (hm.ext gStp hx) hj))
  have HX := Lib.hid (fun (W : World) (hx : Ext w W) => nextOf_any (k := mn - 1) (rmk_of' (hm.ext gStp hx) hj))
  obtain ⟨a1, n1, c1, rfl⟩ := hl.slice
  obtain ⟨a2, n2, c2, rfl⟩ := hm.slice
  obtain ⟨hn1, hn2⟩ := hn
  clear hl hi hu hm hj hk
  by_cases k1 : kd = 1
  · subst k1
    by_cases h0 : checkR ((l, c), s.data.toList) = 0
    · have H0 := Lib.hid h0
      rw [h0] at HR
      clear h0
      cases g : noneM (m, e) with
      | false =>
        rw [checkD_put_form rfl H0.out (.inl g)]
        rw [g] at HN2
        clear HN1 HK
        go_enter Try.func31, Try.ntmps31
        go_wp2_with (first
          | (go_at_call 52; (with_reducible refine (HR.out _ extA).mono ?_); rintro e' w1 ⟨rfl, hx1⟩; have hz1 := hx1.size; (try simp at hz1); have hb1_0 : w.heap.size < w1.heap.size := (by omega); have p0 := (hx1.cells (w.heap.size) (0) (by first | omega | (simp <;> omega))).trans (show _ = some (.int .i64 1) by first | (with_reducible assumption) | go_simp); have p1 := (hx1.cells (w.heap.size) (1) (by first | omega | (simp <;> omega))).trans (show _ = some (.slice a1 n1 c1) by first | (with_reducible assumption) | go_simp); have p2 := (hx1.cells (w.heap.size) (2) (by first | omega | (simp <;> omega))).trans (show _ = some (.int .i64 c) by first | (with_reducible assumption) | go_simp); have p3 := (hx1.cells (w.heap.size) (3) (by first | omega | (simp <;> omega))).trans (show _ = some (.string s) by first | (with_reducible assumption) | go_simp); have p4 := (hx1.cells (w.heap.size) (4) (by first | omega | (simp <;> omega))).trans (show _ = some (.slice a2 n2 c2) by first | (with_reducible assumption) | go_simp); have p5 := (hx1.cells (w.heap.size) (5) (by first | omega | (simp <;> omega))).trans (show _ = some (.int .i64 e) by first | (with_reducible assumption) | go_simp); have p6 := (hx1.cells (w.heap.size) (6) (by first | omega | (simp <;> omega))).trans (show _ = some (.int .i64 mn) by first | (with_reducible assumption) | go_simp))
          | (go_at_call 54; (with_reducible refine (HK.out _ extA).mono ?_); rintro e' w2 ⟨rfl, hx2⟩; have hz2 := hx2.size; (try simp at hz2); have hb2_0 : w.heap.size < w2.heap.size := (by omega); have q0 := (hx2.cells (w.heap.size) (0) (by first | omega | (simp <;> omega))).trans (show _ = some (.int .i64 1) by first | (with_reducible assumption) | go_simp); have q1 := (hx2.cells (w.heap.size) (1) (by first | omega | (simp <;> omega))).trans (show _ = some (.slice a1 n1 c1) by first | (with_reducible assumption) | go_simp); have q2 := (hx2.cells (w.heap.size) (2) (by first | omega | (simp <;> omega))).trans (show _ = some (.int .i64 c) by first | (with_reducible assumption) | go_simp); have q3 := (hx2.cells (w.heap.size) (3) (by first | omega | (simp <;> omega))).trans (show _ = some (.string s) by first | (with_reducible assumption) | go_simp); have q4 := (hx2.cells (w.heap.size) (4) (by first | omega | (simp <;> omega))).trans (show _ = some (.slice a2 n2 c2) by first | (with_reducible assumption) | go_simp); have q5 := (hx2.cells (w.heap.size) (5) (by first | omega | (simp <;> omega))).trans (show _ = some (.int .i64 e) by first | (with_reducible assumption) | go_simp); have q6 := (hx2.cells (w.heap.size) (6) (by first | omega | (simp <;> omega))).trans (show _ = some (.int .i64 mn) by first | (with_reducible assumption) | go_simp))
          | (go_at_call 53; (with_reducible refine (HN2.out _ extA).mono ?_); rintro e' w4 ⟨rfl, hx4⟩; have hz4 := hx4.size; (try simp at hz4); have hb4_0 : w.heap.size < w4.heap.size := (by omega); have s0 := (hx4.cells (w.heap.size) (0) (by first | omega | (simp <;> omega))).trans (show _ = some (.int .i64 1) by first | (with_reducible assumption) | go_simp); have s1 := (hx4.cells (w.heap.size) (1) (by first | omega | (simp <;> omega))).trans (show _ = some (.slice a1 n1 c1) by first | (with_reducible assumption) | go_simp); have s2 := (hx4.cells (w.heap.size) (2) (by first | omega | (simp <;> omega))).trans (show _ = some (.int .i64 c) by first | (with_reducible assumption) | go_simp); have s3 := (hx4.cells (w.heap.size) (3) (by first | omega | (simp <;> omega))).trans (show _ = some (.string s) by first | (with_reducible assumption) | go_simp); have s4 := (hx4.cells (w.heap.size) (4) (by first | omega | (simp <;> omega))).trans (show _ = some (.slice a2 n2 c2) by first | (with_reducible assumption) | go_simp); have s5 := (hx4.cells (w.heap.size) (5) (by first | omega | (simp <;> omega))).trans (show _ = some (.int .i64 e) by first | (with_reducible assumption) | go_simp); have s6 := (hx4.cells (w.heap.size) (6) (by first | omega | (simp <;> omega))).trans (show _ = some (.int .i64 mn) by first | (with_reducible assumption) | go_simp))
          | (go_at_call 53; (with_reducible refine (HN1.out _ extA).mono ?_); rintro e' w3 ⟨rfl, hx3⟩; have hz3 := hx3.size; (try simp at hz3); have hb3_0 : w.heap.size < w3.heap.size := (by omega); have r0 := (hx3.cells (w.heap.size) (0) (by first | omega | (simp <;> omega))).trans (show _ = some (.int .i64 1) by first | (with_reducible assumption) | go_simp); have r1 := (hx3.cells (w.heap.size) (1) (by first | omega | (simp <;> omega))).trans (show _ = some (.slice a1 n1 c1) by first | (with_reducible assumption) | go_simp); have r2 := (hx3.cells (w.heap.size) (2) (by first | omega | (simp <;> omega))).trans (show _ = some (.int .i64 c) by first | (with_reducible assumption) | go_simp); have r3 := (hx3.cells (w.heap.size) (3) (by first | omega | (simp <;> omega))).trans (show _ = some (.string s) by first | (with_reducible assumption) | go_simp); have r4 := (hx3.cells (w.heap.size) (4) (by first | omega | (simp <;> omega))).trans (show _ = some (.slice a2 n2 c2) by first | (with_reducible assumption) | go_simp); have r5 := (hx3.cells (w.heap.size) (5) (by first | omega | (simp <;> omega))).trans (show _ = some (.int .i64 e) by first | (with_reducible assumption) | go_simp); have r6 := (hx3.cells (w.heap.size) (6) (by first | omega | (simp <;> omega))).trans (show _ = some (.int .i64 mn) by first | (with_reducible assumption) | go_simp))
          | (go_at_call 55; (with_reducible refine (HX.out _ extA).mono ?_); rintro e' w5 ⟨cs5, rfl, hm5, hx5⟩; obtain ⟨v5, rfl, hv5, _⟩ := hm5; obtain ⟨a5, n5, c5, rfl⟩ := hv5.slice; clear hv5)
          | (go_at_call 30; (with_reducible refine (between_any _ _ _ _).mono ?_); rintro e' w' ⟨rfl, rfl⟩))
        go_ret
        exact ⟨rfl, extA⟩
      | true =>
        rw [g] at HN2
        clear HN1 HK
        by_cases h1 : mn = 0
        · rw [checkD_put_ok rfl H0.out g h1]
          have t1 : (mn != 0) = false := by simpa using h1
          clear h1
          go_enter Try.func31, Try.ntmps31
          go_wp2_with (first
            | (go_at_call 52; (with_reducible refine (HR.out _ extA).mono ?_); rintro e' w1 ⟨rfl, hx1⟩; have hz1 := hx1.size; (try simp at hz1); have hb1_0 : w.heap.size < w1.heap.size := (by omega); have p0 := (hx1.cells (w.heap.size) (0) (by first | omega | (simp <;> omega))).trans (show _ = some (.int .i64 1) by first | (with_reducible assumption) | go_simp); have p1 := (hx1.cells (w.heap.size) (1) (by first | omega | (simp <;> omega))).trans (show _ = some (.slice a1 n1 c1) by first | (with_reducible assumption) | go_simp); have p2 := (hx1.cells (w.heap.size) (2) (by first | omega | (simp <;> omega))).trans (show _ = some (.int .i64 c) by first | (with_reducible assumption) | go_simp); have p3 := (hx1.cells (w.heap.size) (3) (by first | omega | (simp <;> omega))).trans (show _ = some (.string s) by first | (with_reducible assumption) | go_simp); have p4 := (hx1.cells (w.heap.size) (4) (by first | omega | (simp <;> omega))).trans (show _ = some (.slice a2 n2 c2) by first | (with_reducible assumption) | go_simp); have p5 := (hx1.cells (w.heap.size) (5) (by first | omega | (simp <;> omega))).trans (show _ = some (.int .i64 e) by first | (with_reducible assumption) | go_simp); have p6 := (hx1.cells (w.heap.size) (6) (by first | omega | (simp <;> omega))).trans (show _ = some (.int .i64 mn) by first | (with_reducible assumption) | go_simp))
            | (go_at_call 54; (with_reducible refine (HK.out _ extA).mono ?_); rintro e' w2 ⟨rfl, hx2⟩; have hz2 := hx2.size; (try simp at hz2); have hb2_0 : w.heap.size < w2.heap.size := (by omega); have q0 := (hx2.cells (w.heap.size) (0) (by first | omega | (simp <;> omega))).trans (show _ = some (.int .i64 1) by first | (with_reducible assumption) | go_simp); have q1 := (hx2.cells (w.heap.size) (1) (by first | omega | (simp <;> omega))).trans (show _ = some (.slice a1 n1 c1) by first | (with_reducible assumption) | go_simp); have q2 := (hx2.cells (w.heap.size) (2) (by first | omega | (simp <;> omega))).trans (show _ = some (.int .i64 c) by first | (with_reducible assumption) | go_simp); have q3 := (hx2.cells (w.heap.size) (3) (by first | omega | (simp <;> omega))).trans (show _ = some (.string s) by first | (with_reducible assumption) | go_simp); have q4 := (hx2.cells (w.heap.size) (4) (by first | omega | (simp <;> omega))).trans (show _ = some (.slice a2 n2 c2) by first | (with_reducible assumption) | go_simp); have q5 := (hx2.cells (w.heap.size) (5) (by first | omega | (simp <;> omega))).trans (show _ = some (.int .i64 e) by first | (with_reducible assumption) | go_simp); have q6 := (hx2.cells (w.heap.size) (6) (by first | omega | (simp <;> omega))).trans (show _ = some (.int .i64 mn) by first | (with_reducible assumption) | go_simp))
            | (go_at_call 53; (with_reducible refine (HN2.out _ extA).mono ?_); rintro e' w4 ⟨rfl, hx4⟩; have hz4 := hx4.size; (try simp at hz4); have hb4_0 : w.heap.size < w4.heap.size := (by omega); have s0 := (hx4.cells (w.heap.size) (0) (by first | omega | (simp <;> omega))).trans (show _ = some (.int .i64 1) by first | (with_reducible assumption) | go_simp); have s1 := (hx4.cells (w.heap.size) (1) (by first | omega | (simp <;> omega))).trans (show _ = some (.slice a1 n1 c1) by first | (with_reducible assumption) | go_simp); have s2 := (hx4.cells (w.heap.size) (2) (by first | omega | (simp <;> omega))).trans (show _ = some (.int .i64 c) by first | (with_reducible assumption) | go_simp); have s3 := (hx4.cells (w.heap.size) (3) (by first | omega | (simp <;> omega))).trans (show _ = some (.string s) by first | (with_reducible assumption) | go_simp); have s4 := (hx4.cells (w.heap.size) (4) (by first | omega | (simp <;> omega))).trans (show _ = some (.slice a2 n2 c2) by first | (with_reducible assumption) | go_simp); have s5 := (hx4.cells (w.heap.size) (5) (by first | omega | (simp <;> omega))).trans (show _ = some (.int .i64 e) by first | (with_reducible assumption) | go_simp); have s6 := (hx4.cells (w.heap.size) (6) (by first | omega | (simp <;> omega))).trans (show _ = some (.int .i64 mn) by first | (with_reducible assumption) | go_simp))
            | (go_at_call 53; (with_reducible refine (HN1.out _ extA).mono ?_); rintro e' w3 ⟨rfl, hx3⟩; have hz3 := hx3.size; (try simp at hz3); have hb3_0 : w.heap.size < w3.heap.size := (by omega); have r0 := (hx3.cells (w.heap.size) (0) (by first | omega | (simp <;> omega))).trans (show _ = some (.int .i64 1) by first | (with_reducible assumption) | go_simp); have r1 := (hx3.cells (w.heap.size) (1) (by first | omega | (simp <;> omega))).trans (show _ = some (.slice a1 n1 c1) by first | (with_reducible assumption) | go_simp); have r2 := (hx3.cells (w.heap.size) (2) (by first | omega | (simp <;> omega))).trans (show _ = some (.int .i64 c) by first | (with_reducible assumption) | go_simp); have r3 := (hx3.cells (w.heap.size) (3) (by first | omega | (simp <;> omega))).trans (show _ = some (.string s) by first | (with_reducible assumption) | go_simp); have r4 := (hx3.cells (w.heap.size) (4) (by first | omega | (simp <;> omega))).trans (show _ = some (.slice a2 n2 c2) by first | (with_reducible assumption) | go_simp); have r5 := (hx3.cells (w.heap.size) (5) (by first | omega | (simp <;> omega))).trans (show _ = some (.int .i64 e) by first | (with_reducible assumption) | go_simp); have r6 := (hx3.cells (w.heap.size) (6) (by first | omega | (simp <;> omega))).trans (show _ = some (.int .i64 mn) by first | (with_reducible assumption) | go_simp))
            | (go_at_call 55; (with_reducible refine (HX.out _ extA).mono ?_); rintro e' w5 ⟨cs5, rfl, hm5, hx5⟩; obtain ⟨v5, rfl, hv5, _⟩ := hm5; obtain ⟨a5, n5, c5, rfl⟩ := hv5.slice; clear hv5)
            | (go_at_call 30; (with_reducible refine (between_any _ _ _ _).mono ?_); rintro e' w' ⟨rfl, rfl⟩))
          go_ret
          exact ⟨rfl, extA⟩
        · rw [checkD_put_form rfl H0.out (.inr h1)]
          have t1 : (mn != 0) = true := by simpa using h1
          clear h1
          go_enter Try.func31, Try.ntmps31
          go_wp2_with (first
            | (go_at_call 52; (with_reducible refine (HR.out _ extA).mono ?_); rintro e' w1 ⟨rfl, hx1⟩; have hz1 := hx1.size; (try simp at hz1); have hb1_0 : w.heap.size < w1.heap.size := (by omega); have p0 := (hx1.cells (w.heap.size) (0) (by first | omega | (simp <;> omega))).trans (show _ = some (.int .i64 1) by first | (with_reducible assumption) | go_simp); have p1 := (hx1.cells (w.heap.size) (1) (by first | omega | (simp <;> omega))).trans (show _ = some (.slice a1 n1 c1) by first | (with_reducible assumption) | go_simp); have p2 := (hx1.cells (w.heap.size) (2) (by first | omega | (simp <;> omega))).trans (show _ = some (.int .i64 c) by first | (with_reducible assumption) | go_simp); have p3 := (hx1.cells (w.heap.size) (3) (by first | omega | (simp <;> omega))).trans (show _ = some (.string s) by first | (with_reducible assumption) | go_simp); have p4 := (hx1.cells (w.heap.size) (4) (by first | omega | (simp <;> omega))).trans (show _ = some (.slice a2 n2 c2) by first | (with_reducible assumption) | go_simp); have p5 := (hx1.cells (w.heap.size) (5) (by first | omega | (simp <;> omega))).trans (show _ = some (.int .i64 e) by first | (with_reducible assumption) | go_simp); have p6 := (hx1.cells (w.heap.size) (6) (by first | omega | (simp <;> omega))).trans (show _ = some (.int .i64 mn) by first | (with_reducible assumption) | go_simp))
            | (go_at_call 54; (with_reducible refine (HK.out _ extA).mono ?_); rintro e' w2 ⟨rfl, hx2⟩; have hz2 := hx2.size; (try simp at hz2); have hb2_0 : w.heap.size < w2.heap.size := (by omega); have q0 := (hx2.cells (w.heap.size) (0) (by first | omega | (simp <;> omega))).trans (show _ = some (.int .i64 1) by first | (with_reducible assumption) | go_simp); have q1 := (hx2.cells (w.heap.size) (1) (by first | omega | (simp <;> omega))).trans (show _ = some (.slice a1 n1 c1) by first | (with_reducible assumption) | go_simp); have q2 := (hx2.cells (w.heap.size) (2) (by first | omega | (simp <;> omega))).trans (show _ = some (.int .i64 c) by first | (with_reducible assumption) | go_simp); have q3 := (hx2.cells (w.heap.size) (3) (by first | omega | (simp <;> omega))).trans (show _ = some (.string s) by first | (with_reducible assumption) | go_simp); have q4 := (hx2.cells (w.heap.size) (4) (by first | omega | (simp <;> omega))).trans (show _ = some (.slice a2 n2 c2) by first | (with_reducible assumption) | go_simp); have q5 := (hx2.cells (w.heap.size) (5) (by first | omega | (simp <;> omega))).trans (show _ = some (.int .i64 e) by first | (with_reducible assumption) | go_simp); have q6 := (hx2.cells (w.heap.size) (6) (by first | omega | (simp <;> omega))).trans (show _ = some (.int .i64 mn) by first | (with_reducible assumption) | go_simp))
            | (go_at_call 53; (with_reducible refine (HN2.out _ extA).mono ?_); rintro e' w4 ⟨rfl, hx4⟩; have hz4 := hx4.size; (try simp at hz4); have hb4_0 : w.heap.size < w4.heap.size := (by omega); have s0 := (hx4.cells (w.heap.size) (0) (by first | omega | (simp <;> omega))).trans (show _ = some (.int .i64 1) by first | (with_reducible assumption) | go_simp); have s1 := (hx4.cells (w.heap.size) (1) (by first | omega | (simp <;> omega))).trans (show _ = some (.slice a1 n1 c1) by first | (with_reducible assumption) | go_simp); have s2 := (hx4.cells (w.heap.size) (2) (by first | omega | (simp <;> omega))).trans (show _ = some (.int .i64 c) by first | (with_reducible assumption) | go_simp); have s3 := (hx4.cells (w.heap.size) (3) (by first | omega | (simp <;> omega))).trans (show _ = some (.string s) by first | (with_reducible assumption) | go_simp); have s4 := (hx4.cells (w.heap.size) (4) (by first | omega | (simp <;> omega))).trans (show _ = some (.slice a2 n2 c2) by first | (with_reducible assumption) | go_simp); have s5 := (hx4.cells (w.heap.size) (5) (by first | omega | (simp <;> omega))).trans (show _ = some (.int .i64 e) by first | (with_reducible assumption) | go_simp); have s6 := (hx4.cells (w.heap.size) (6) (by first | omega | (simp <;> omega))).trans (show _ = some (.int .i64 mn) by first | (with_reducible assumption) | go_simp))
            | (go_at_call 53; (with_reducible refine (HN1.out _ extA).mono ?_); rintro e' w3 ⟨rfl, hx3⟩; have hz3 := hx3.size; (try simp at hz3); have hb3_0 : w.heap.size < w3.heap.size := (by omega); have r0 := (hx3.cells (w.heap.size) (0) (by first | omega | (simp <;> omega))).trans (show _ = some (.int .i64 1) by first | (with_reducible assumption) | go_simp); have r1 := (hx3.cells (w.heap.size) (1) (by first | omega | (simp <;> omega))).trans (show _ = some (.slice a1 n1 c1) by first | (with_reducible assumption) | go_simp); have r2 := (hx3.cells (w.heap.size) (2) (by first | omega | (simp <;> omega))).trans (show _ = some (.int .i64 c) by first | (with_reducible assumption) | go_simp); have r3 := (hx3.cells (w.heap.size) (3) (by first | omega | (simp <;> omega))).trans (show _ = some (.string s) by first | (with_reducible assumption) | go_simp); have r4 := (hx3.cells (w.heap.size) (4) (by first | omega | (simp <;> omega))).trans (show _ = some (.slice a2 n2 c2) by first | (with_reducible assumption) | go_simp); have r5 := (hx3.cells (w.heap.size) (5) (by first | omega | (simp <;> omega))).trans (show _ = some (.int .i64 e) by first | (with_reducible assumption) | go_simp); have r6 := (hx3.cells (w.heap.size) (6) (by first | omega | (simp <;> omega))).trans (show _ = some (.int .i64 mn) by first | (with_reducible assumption) | go_simp))
            | (go_at_call 55; (with_reducible refine (HX.out _ extA).mono ?_); rintro e' w5 ⟨cs5, rfl, hm5, hx5⟩; obtain ⟨v5, rfl, hv5, _⟩ := hm5; obtain ⟨a5, n5, c5, rfl⟩ := hv5.slice; clear hv5)
            | (go_at_call 30; (with_reducible refine (between_any _ _ _ _).mono ?_); rintro e' w' ⟨rfl, rfl⟩))
          go_ret
          exact ⟨rfl, extA⟩
    · rw [checkD_put_bad rfl h0]
      simp only
      have t1 : (checkR ((l, c), s.data.toList) != 0) = true := by simpa using h0
      have t2 : (checkR ((l, c), s.data.toList) == 0) = false := by simpa using h0
      generalize checkR ((l, c), s.data.toList) = r at *
      clear h0
      go_enter Try.func31, Try.ntmps31
      go_wp2_with (first
        | (go_at_call 52; (with_reducible refine (HR.out _ extA).mono ?_); rintro e' w1 ⟨rfl, hx1⟩; have hz1 := hx1.size; (try simp at hz1); have hb1_0 : w.heap.size < w1.heap.size := (by omega); have p0 := (hx1.cells (w.heap.size) (0) (by first | omega | (simp <;> omega))).trans (show _ = some (.int .i64 1) by first | (with_reducible assumption) | go_simp); have p1 := (hx1.cells (w.heap.size) (1) (by first | omega | (simp <;> omega))).trans (show _ = some (.slice a1 n1 c1) by first | (with_reducible assumption) | go_simp); have p2 := (hx1.cells (w.heap.size) (2) (by first | omega | (simp <;> omega))).trans (show _ = some (.int .i64 c) by first | (with_reducible assumption) | go_simp); have p3 := (hx1.cells (w.heap.size) (3) (by first | omega | (simp <;> omega))).trans (show _ = some (.string s) by first | (with_reducible assumption) | go_simp); have p4 := (hx1.cells (w.heap.size) (4) (by first | omega | (simp <;> omega))).trans (show _ = some (.slice a2 n2 c2) by first | (with_reducible assumption) | go_simp); have p5 := (hx1.cells (w.heap.size) (5) (by first | omega | (simp <;> omega))).trans (show _ = some (.int .i64 e) by first | (with_reducible assumption) | go_simp); have p6 := (hx1.cells (w.heap.size) (6) (by first | omega | (simp <;> omega))).trans (show _ = some (.int .i64 mn) by first | (with_reducible assumption) | go_simp))
        | (go_at_call 54; (with_reducible refine (HK.out _ extA).mono ?_); rintro e' w2 ⟨rfl, hx2⟩; have hz2 := hx2.size; (try simp at hz2); have hb2_0 : w.heap.size < w2.heap.size := (by omega); have q0 := (hx2.cells (w.heap.size) (0) (by first | omega | (simp <;> omega))).trans (show _ = some (.int .i64 1) by first | (with_reducible assumption) | go_simp); have q1 := (hx2.cells (w.heap.size) (1) (by first | omega | (simp <;> omega))).trans (show _ = some (.slice a1 n1 c1) by first | (with_reducible assumption) | go_simp); have q2 := (hx2.cells (w.heap.size) (2) (by first | omega | (simp <;> omega))).trans (show _ = some (.int .i64 c) by first | (with_reducible assumption) | go_simp); have q3 := (hx2.cells (w.heap.size) (3) (by first | omega | (simp <;> omega))).trans (show _ = some (.string s) by first | (with_reducible assumption) | go_simp); have q4 := (hx2.cells (w.heap.size) (4) (by first | omega | (simp <;> omega))).trans (show _ = some (.slice a2 n2 c2) by first | (with_reducible assumption) | go_simp); have q5 := (hx2.cells (w.heap.size) (5) (by first | omega | (simp <;> omega))).trans (show _ = some (.int .i64 e) by first | (with_reducible assumption) | go_simp); have q6 := (hx2.cells (w.heap.size) (6) (by first | omega | (simp <;> omega))).trans (show _ = some (.int .i64 mn) by first | (with_reducible assumption) | go_simp))
        | (go_at_call 53; (with_reducible refine (HN2.out _ extA).mono ?_); rintro e' w4 ⟨rfl, hx4⟩; have hz4 := hx4.size; (try simp at hz4); have hb4_0 : w.heap.size < w4.heap.size := (by omega); have s0 := (hx4.cells (w.heap.size) (0) (by first | omega | (simp <;> omega))).trans (show _ = some (.int .i64 1) by first | (with_reducible assumption) | go_simp); have s1 := (hx4.cells (w.heap.size) (1) (by first | omega | (simp <;> omega))).trans (show _ = some (.slice a1 n1 c1) by first | (with_reducible assumption) | go_simp); have s2 := (hx4.cells (w.heap.size) (2) (by first | omega | (simp <;> omega))).trans (show _ = some (.int .i64 c) by first | (with_reducible assumption) | go_simp); have s3 := (hx4.cells (w.heap.size) (3) (by first | omega | (simp <;> omega))).trans (show _ = some (.string s) by first | (with_reducible assumption) | go_simp); have s4 := (hx4.cells (w.heap.size) (4) (by first | omega | (simp <;> omega))).trans (show _ = some (.slice a2 n2 c2) by first | (with_reducible assumption) | go_simp); have s5 := (hx4.cells (w.heap.size) (5) (by first | omega | (simp <;> omega))).trans (show _ = some (.int .i64 e) by first | (with_reducible assumption) | go_simp); have s6 := (hx4.cells (w.heap.size) (6) (by first | omega | (simp <;> omega))).trans (show _ = some (.int .i64 mn) by first | (with_reducible assumption) | go_simp))
        | (go_at_call 53; (with_reducible refine (HN1.out _ extA).mono ?_); rintro e' w3 ⟨rfl, hx3⟩; have hz3 := hx3.size; (try simp at hz3); have hb3_0 : w.heap.size < w3.heap.size := (by omega); have r0 := (hx3.cells (w.heap.size) (0) (by first | omega | (simp <;> omega))).trans (show _ = some (.int .i64 1) by first | (with_reducible assumption) | go_simp); have r1 := (hx3.cells (w.heap.size) (1) (by first | omega | (simp <;> omega))).trans (show _ = some (.slice a1 n1 c1) by first | (with_reducible assumption) | go_simp); have r2 := (hx3.cells (w.heap.size) (2) (by first | omega | (simp <;> omega))).trans (show _ = some (.int .i64 c) by first | (with_reducible assumption) | go_simp); have r3 := (hx3.cells (w.heap.size) (3) (by first | omega | (simp <;> omega))).trans (show _ = some (.string s) by first | (with_reducible assumption) | go_simp); have r4 := (hx3.cells (w.heap.size) (4) (by first | omega | (simp <;> omega))).trans (show _ = some (.slice a2 n2 c2) by first | (with_reducible assumption) | go_simp); have r5 := (hx3.cells (w.heap.size) (5) (by first | omega | (simp <;> omega))).trans (show _ = some (.int .i64 e) by first | (with_reducible assumption) | go_simp); have r6 := (hx3.cells (w.heap.size) (6) (by first | omega | (simp <;> omega))).trans (show _ = some (.int .i64 mn) by first | (with_reducible assumption) | go_simp))
        | (go_at_call 55; (with_reducible refine (HX.out _ extA).mono ?_); rintro e' w5 ⟨cs5, rfl, hm5, hx5⟩; obtain ⟨v5, rfl, hv5, _⟩ := hm5; obtain ⟨a5, n5, c5, rfl⟩ := hv5.slice; clear hv5)
        | (go_at_call 30; (with_reducible refine (between_any _ _ _ _).mono ?_); rintro e' w' ⟨rfl, rfl⟩))
      go_ret
      exact ⟨rfl, extA⟩
  · have t0 : (kd == 1) = false := by simpa using k1
    by_cases k2 : kd = 2
    · subst k2
      by_cases h0 : checkM (m, e) = 0
      · have H0 := Lib.hid h0
        rw [h0] at HK
        clear h0
        cases g : noneM (l, c) with
        | false =>
          rw [checkD_take_form k1 rfl H0.out (.inl g)]
          rw [g] at HN1
          clear k1 HN2
          go_enter Try.func31, Try.ntmps31
          go_wp2_with (first
            | (go_at_call 52; (with_reducible refine (HR.out _ extA).mono ?_); rintro e' w1 ⟨rfl, hx1⟩; have hz1 := hx1.size; (try simp at hz1); have hb1_0 : w.heap.size < w1.heap.size := (by omega); have p0 := (hx1.cells (w.heap.size) (0) (by first | omega | (simp <;> omega))).trans (show _ = some (.int .i64 2) by first | (with_reducible assumption) | go_simp); have p1 := (hx1.cells (w.heap.size) (1) (by first | omega | (simp <;> omega))).trans (show _ = some (.slice a1 n1 c1) by first | (with_reducible assumption) | go_simp); have p2 := (hx1.cells (w.heap.size) (2) (by first | omega | (simp <;> omega))).trans (show _ = some (.int .i64 c) by first | (with_reducible assumption) | go_simp); have p3 := (hx1.cells (w.heap.size) (3) (by first | omega | (simp <;> omega))).trans (show _ = some (.string s) by first | (with_reducible assumption) | go_simp); have p4 := (hx1.cells (w.heap.size) (4) (by first | omega | (simp <;> omega))).trans (show _ = some (.slice a2 n2 c2) by first | (with_reducible assumption) | go_simp); have p5 := (hx1.cells (w.heap.size) (5) (by first | omega | (simp <;> omega))).trans (show _ = some (.int .i64 e) by first | (with_reducible assumption) | go_simp); have p6 := (hx1.cells (w.heap.size) (6) (by first | omega | (simp <;> omega))).trans (show _ = some (.int .i64 mn) by first | (with_reducible assumption) | go_simp))
            | (go_at_call 54; (with_reducible refine (HK.out _ extA).mono ?_); rintro e' w2 ⟨rfl, hx2⟩; have hz2 := hx2.size; (try simp at hz2); have hb2_0 : w.heap.size < w2.heap.size := (by omega); have q0 := (hx2.cells (w.heap.size) (0) (by first | omega | (simp <;> omega))).trans (show _ = some (.int .i64 2) by first | (with_reducible assumption) | go_simp); have q1 := (hx2.cells (w.heap.size) (1) (by first | omega | (simp <;> omega))).trans (show _ = some (.slice a1 n1 c1) by first | (with_reducible assumption) | go_simp); have q2 := (hx2.cells (w.heap.size) (2) (by first | omega | (simp <;> omega))).trans (show _ = some (.int .i64 c) by first | (with_reducible assumption) | go_simp); have q3 := (hx2.cells (w.heap.size) (3) (by first | omega | (simp <;> omega))).trans (show _ = some (.string s) by first | (with_reducible assumption) | go_simp); have q4 := (hx2.cells (w.heap.size) (4) (by first | omega | (simp <;> omega))).trans (show _ = some (.slice a2 n2 c2) by first | (with_reducible assumption) | go_simp); have q5 := (hx2.cells (w.heap.size) (5) (by first | omega | (simp <;> omega))).trans (show _ = some (.int .i64 e) by first | (with_reducible assumption) | go_simp); have q6 := (hx2.cells (w.heap.size) (6) (by first | omega | (simp <;> omega))).trans (show _ = some (.int .i64 mn) by first | (with_reducible assumption) | go_simp))
            | (go_at_call 53; (with_reducible refine (HN2.out _ extA).mono ?_); rintro e' w4 ⟨rfl, hx4⟩; have hz4 := hx4.size; (try simp at hz4); have hb4_0 : w.heap.size < w4.heap.size := (by omega); have s0 := (hx4.cells (w.heap.size) (0) (by first | omega | (simp <;> omega))).trans (show _ = some (.int .i64 2) by first | (with_reducible assumption) | go_simp); have s1 := (hx4.cells (w.heap.size) (1) (by first | omega | (simp <;> omega))).trans (show _ = some (.slice a1 n1 c1) by first | (with_reducible assumption) | go_simp); have s2 := (hx4.cells (w.heap.size) (2) (by first | omega | (simp <;> omega))).trans (show _ = some (.int .i64 c) by first | (with_reducible assumption) | go_simp); have s3 := (hx4.cells (w.heap.size) (3) (by first | omega | (simp <;> omega))).trans (show _ = some (.string s) by first | (with_reducible assumption) | go_simp); have s4 := (hx4.cells (w.heap.size) (4) (by first | omega | (simp <;> omega))).trans (show _ = some (.slice a2 n2 c2) by first | (with_reducible assumption) | go_simp); have s5 := (hx4.cells (w.heap.size) (5) (by first | omega | (simp <;> omega))).trans (show _ = some (.int .i64 e) by first | (with_reducible assumption) | go_simp); have s6 := (hx4.cells (w.heap.size) (6) (by first | omega | (simp <;> omega))).trans (show _ = some (.int .i64 mn) by first | (with_reducible assumption) | go_simp))
            | (go_at_call 53; (with_reducible refine (HN1.out _ extA).mono ?_); rintro e' w3 ⟨rfl, hx3⟩; have hz3 := hx3.size; (try simp at hz3); have hb3_0 : w.heap.size < w3.heap.size := (by omega); have r0 := (hx3.cells (w.heap.size) (0) (by first | omega | (simp <;> omega))).trans (show _ = some (.int .i64 2) by first | (with_reducible assumption) | go_simp); have r1 := (hx3.cells (w.heap.size) (1) (by first | omega | (simp <;> omega))).trans (show _ = some (.slice a1 n1 c1) by first | (with_reducible assumption) | go_simp); have r2 := (hx3.cells (w.heap.size) (2) (by first | omega | (simp <;> omega))).trans (show _ = some (.int .i64 c) by first | (with_reducible assumption) | go_simp); have r3 := (hx3.cells (w.heap.size) (3) (by first | omega | (simp <;> omega))).trans (show _ = some (.string s) by first | (with_reducible assumption) | go_simp); have r4 := (hx3.cells (w.heap.size) (4) (by first | omega | (simp <;> omega))).trans (show _ = some (.slice a2 n2 c2) by first | (with_reducible assumption) | go_simp); have r5 := (hx3.cells (w.heap.size) (5) (by first | omega | (simp <;> omega))).trans (show _ = some (.int .i64 e) by first | (with_reducible assumption) | go_simp); have r6 := (hx3.cells (w.heap.size) (6) (by first | omega | (simp <;> omega))).trans (show _ = some (.int .i64 mn) by first | (with_reducible assumption) | go_simp))
            | (go_at_call 55; (with_reducible refine (HX.out _ extA).mono ?_); rintro e' w5 ⟨cs5, rfl, hm5, hx5⟩; obtain ⟨v5, rfl, hv5, _⟩ := hm5; obtain ⟨a5, n5, c5, rfl⟩ := hv5.slice; clear hv5)
            | (go_at_call 30; (with_reducible refine (between_any _ _ _ _).mono ?_); rintro e' w' ⟨rfl, rfl⟩))
          go_ret
          exact ⟨rfl, extA⟩
        | true =>
          rw [g] at HN1
          clear HN2
          by_cases h1 : s.size = 0
          · have t1 : s.toList.isEmpty = true := empty_yes h1
            by_cases h2 : mn < 1 ∨ 60 < mn
            · rw [checkD_take_range k1 rfl H0.out g (bytes_nil h1) h2]
              have t3 : inB mn 1 60 = false := by unfold inB; simp; omega
              rcases h2 with h2 | h2
              · have t2 : decide (mn < 1) = true := decide_eq_true h2
                clear k1 h1
                go_enter Try.func31, Try.ntmps31
                go_wp2_with (first
                  | (go_at_call 52; (with_reducible refine (HR.out _ extA).mono ?_); rintro e' w1 ⟨rfl, hx1⟩; have hz1 := hx1.size; (try simp at hz1); have hb1_0 : w.heap.size < w1.heap.size := (by omega); have p0 := (hx1.cells (w.heap.size) (0) (by first | omega | (simp <;> omega))).trans (show _ = some (.int .i64 2) by first | (with_reducible assumption) | go_simp); have p1 := (hx1.cells (w.heap.size) (1) (by first | omega | (simp <;> omega))).trans (show _ = some (.slice a1 n1 c1) by first | (with_reducible assumption) | go_simp); have p2 := (hx1.cells (w.heap.size) (2) (by first | omega | (simp <;> omega))).trans (show _ = some (.int .i64 c) by first | (with_reducible assumption) | go_simp); have p3 := (hx1.cells (w.heap.size) (3) (by first | omega | (simp <;> omega))).trans (show _ = some (.string s) by first | (with_reducible assumption) | go_simp); have p4 := (hx1.cells (w.heap.size) (4) (by first | omega | (simp <;> omega))).trans (show _ = some (.slice a2 n2 c2) by first | (with_reducible assumption) | go_simp); have p5 := (hx1.cells (w.heap.size) (5) (by first | omega | (simp <;> omega))).trans (show _ = some (.int .i64 e) by first | (with_reducible assumption) | go_simp); have p6 := (hx1.cells (w.heap.size) (6) (by first | omega | (simp <;> omega))).trans (show _ = some (.int .i64 mn) by first | (with_reducible assumption) | go_simp))
                  | (go_at_call 54; (with_reducible refine (HK.out _ extA).mono ?_); rintro e' w2 ⟨rfl, hx2⟩; have hz2 := hx2.size; (try simp at hz2); have hb2_0 : w.heap.size < w2.heap.size := (by omega); have q0 := (hx2.cells (w.heap.size) (0) (by first | omega | (simp <;> omega))).trans (show _ = some (.int .i64 2) by first | (with_reducible assumption) | go_simp); have q1 := (hx2.cells (w.heap.size) (1) (by first | omega | (simp <;> omega))).trans (show _ = some (.slice a1 n1 c1) by first | (with_reducible assumption) | go_simp); have q2 := (hx2.cells (w.heap.size) (2) (by first | omega | (simp <;> omega))).trans (show _ = some (.int .i64 c) by first | (with_reducible assumption) | go_simp); have q3 := (hx2.cells (w.heap.size) (3) (by first | omega | (simp <;> omega))).trans (show _ = some (.string s) by first | (with_reducible assumption) | go_simp); have q4 := (hx2.cells (w.heap.size) (4) (by first | omega | (simp <;> omega))).trans (show _ = some (.slice a2 n2 c2) by first | (with_reducible assumption) | go_simp); have q5 := (hx2.cells (w.heap.size) (5) (by first | omega | (simp <;> omega))).trans (show _ = some (.int .i64 e) by first | (with_reducible assumption) | go_simp); have q6 := (hx2.cells (w.heap.size) (6) (by first | omega | (simp <;> omega))).trans (show _ = some (.int .i64 mn) by first | (with_reducible assumption) | go_simp))
                  | (go_at_call 53; (with_reducible refine (HN2.out _ extA).mono ?_); rintro e' w4 ⟨rfl, hx4⟩; have hz4 := hx4.size; (try simp at hz4); have hb4_0 : w.heap.size < w4.heap.size := (by omega); have s0 := (hx4.cells (w.heap.size) (0) (by first | omega | (simp <;> omega))).trans (show _ = some (.int .i64 2) by first | (with_reducible assumption) | go_simp); have s1 := (hx4.cells (w.heap.size) (1) (by first | omega | (simp <;> omega))).trans (show _ = some (.slice a1 n1 c1) by first | (with_reducible assumption) | go_simp); have s2 := (hx4.cells (w.heap.size) (2) (by first | omega | (simp <;> omega))).trans (show _ = some (.int .i64 c) by first | (with_reducible assumption) | go_simp); have s3 := (hx4.cells (w.heap.size) (3) (by first | omega | (simp <;> omega))).trans (show _ = some (.string s) by first | (with_reducible assumption) | go_simp); have s4 := (hx4.cells (w.heap.size) (4) (by first | omega | (simp <;> omega))).trans (show _ = some (.slice a2 n2 c2) by first | (with_reducible assumption) | go_simp); have s5 := (hx4.cells (w.heap.size) (5) (by first | omega | (simp <;> omega))).trans (show _ = some (.int .i64 e) by first | (with_reducible assumption) | go_simp); have s6 := (hx4.cells (w.heap.size) (6) (by first | omega | (simp <;> omega))).trans (show _ = some (.int .i64 mn) by first | (with_reducible assumption) | go_simp))
                  | (go_at_call 53; (with_reducible refine (HN1.out _ extA).mono ?_); rintro e' w3 ⟨rfl, hx3⟩; have hz3 := hx3.size; (try simp at hz3); have hb3_0 : w.heap.size < w3.heap.size := (by omega); have r0 := (hx3.cells (w.heap.size) (0) (by first | omega | (simp <;> omega))).trans (show _ = some (.int .i64 2) by first | (with_reducible assumption) | go_simp); have r1 := (hx3.cells (w.heap.size) (1) (by first | omega | (simp <;> omega))).trans (show _ = some (.slice a1 n1 c1) by first | (with_reducible assumption) | go_simp); have r2 := (hx3.cells (w.heap.size) (2) (by first | omega | (simp <;> omega))).trans (show _ = some (.int .i64 c) by first | (with_reducible assumption) | go_simp); have r3 := (hx3.cells (w.heap.size) (3) (by first | omega | (simp <;> omega))).trans (show _ = some (.string s) by first | (with_reducible assumption) | go_simp); have r4 := (hx3.cells (w.heap.size) (4) (by first | omega | (simp <;> omega))).trans (show _ = some (.slice a2 n2 c2) by first | (with_reducible assumption) | go_simp); have r5 := (hx3.cells (w.heap.size) (5) (by first | omega | (simp <;> omega))).trans (show _ = some (.int .i64 e) by first | (with_reducible assumption) | go_simp); have r6 := (hx3.cells (w.heap.size) (6) (by first | omega | (simp <;> omega))).trans (show _ = some (.int .i64 mn) by first | (with_reducible assumption) | go_simp))
                  | (go_at_call 55; (with_reducible refine (HX.out _ extA).mono ?_); rintro e' w5 ⟨cs5, rfl, hm5, hx5⟩; obtain ⟨v5, rfl, hv5, _⟩ := hm5; obtain ⟨a5, n5, c5, rfl⟩ := hv5.slice; clear hv5)
                  | (go_at_call 30; (with_reducible refine (between_any _ _ _ _).mono ?_); rintro e' w' ⟨rfl, rfl⟩))
                go_ret
                exact ⟨rfl, extA⟩
              · have t2 : decide (mn < 1) = false := decide_eq_false (by omega)
                have t4 : decide (60 < mn) = true := decide_eq_true h2
                clear k1 h1
                go_enter Try.func31, Try.ntmps31
                go_wp2_with (first
                  | (go_at_call 52; (with_reducible refine (HR.out _ extA).mono ?_); rintro e' w1 ⟨rfl, hx1⟩; have hz1 := hx1.size; (try simp at hz1); have hb1_0 : w.heap.size < w1.heap.size := (by omega); have p0 := (hx1.cells (w.heap.size) (0) (by first | omega | (simp <;> omega))).trans (show _ = some (.int .i64 2) by first | (with_reducible assumption) | go_simp); have p1 := (hx1.cells (w.heap.size) (1) (by first | omega | (simp <;> omega))).trans (show _ = some (.slice a1 n1 c1) by first | (with_reducible assumption) | go_simp); have p2 := (hx1.cells (w.heap.size) (2) (by first | omega | (simp <;> omega))).trans (show _ = some (.int .i64 c) by first | (with_reducible assumption) | go_simp); have p3 := (hx1.cells (w.heap.size) (3) (by first | omega | (simp <;> omega))).trans (show _ = some (.string s) by first | (with_reducible assumption) | go_simp); have p4 := (hx1.cells (w.heap.size) (4) (by first | omega | (simp <;> omega))).trans (show _ = some (.slice a2 n2 c2) by first | (with_reducible assumption) | go_simp); have p5 := (hx1.cells (w.heap.size) (5) (by first | omega | (simp <;> omega))).trans (show _ = some (.int .i64 e) by first | (with_reducible assumption) | go_simp); have p6 := (hx1.cells (w.heap.size) (6) (by first | omega | (simp <;> omega))).trans (show _ = some (.int .i64 mn) by first | (with_reducible assumption) | go_simp))
                  | (go_at_call 54; (with_reducible refine (HK.out _ extA).mono ?_); rintro e' w2 ⟨rfl, hx2⟩; have hz2 := hx2.size; (try simp at hz2); have hb2_0 : w.heap.size < w2.heap.size := (by omega); have q0 := (hx2.cells (w.heap.size) (0) (by first | omega | (simp <;> omega))).trans (show _ = some (.int .i64 2) by first | (with_reducible assumption) | go_simp); have q1 := (hx2.cells (w.heap.size) (1) (by first | omega | (simp <;> omega))).trans (show _ = some (.slice a1 n1 c1) by first | (with_reducible assumption) | go_simp); have q2 := (hx2.cells (w.heap.size) (2) (by first | omega | (simp <;> omega))).trans (show _ = some (.int .i64 c) by first | (with_reducible assumption) | go_simp); have q3 := (hx2.cells (w.heap.size) (3) (by first | omega | (simp <;> omega))).trans (show _ = some (.string s) by first | (with_reducible assumption) | go_simp); have q4 := (hx2.cells (w.heap.size) (4) (by first | omega | (simp <;> omega))).trans (show _ = some (.slice a2 n2 c2) by first | (with_reducible assumption) | go_simp); have q5 := (hx2.cells (w.heap.size) (5) (by first | omega | (simp <;> omega))).trans (show _ = some (.int .i64 e) by first | (with_reducible assumption) | go_simp); have q6 := (hx2.cells (w.heap.size) (6) (by first | omega | (simp <;> omega))).trans (show _ = some (.int .i64 mn) by first | (with_reducible assumption) | go_simp))
                  | (go_at_call 53; (with_reducible refine (HN2.out _ extA).mono ?_); rintro e' w4 ⟨rfl, hx4⟩; have hz4 := hx4.size; (try simp at hz4); have hb4_0 : w.heap.size < w4.heap.size := (by omega); have s0 := (hx4.cells (w.heap.size) (0) (by first | omega | (simp <;> omega))).trans (show _ = some (.int .i64 2) by first | (with_reducible assumption) | go_simp); have s1 := (hx4.cells (w.heap.size) (1) (by first | omega | (simp <;> omega))).trans (show _ = some (.slice a1 n1 c1) by first | (with_reducible assumption) | go_simp); have s2 := (hx4.cells (w.heap.size) (2) (by first | omega | (simp <;> omega))).trans (show _ = some (.int .i64 c) by first | (with_reducible assumption) | go_simp); have s3 := (hx4.cells (w.heap.size) (3) (by first | omega | (simp <;> omega))).trans (show _ = some (.string s) by first | (with_reducible assumption) | go_simp); have s4 := (hx4.cells (w.heap.size) (4) (by first | omega | (simp <;> omega))).trans (show _ = some (.slice a2 n2 c2) by first | (with_reducible assumption) | go_simp); have s5 := (hx4.cells (w.heap.size) (5) (by first | omega | (simp <;> omega))).trans (show _ = some (.int .i64 e) by first | (with_reducible assumption) | go_simp); have s6 := (hx4.cells (w.heap.size) (6) (by first | omega | (simp <;> omega))).trans (show _ = some (.int .i64 mn) by first | (with_reducible assumption) | go_simp))
                  | (go_at_call 53; (with_reducible refine (HN1.out _ extA).mono ?_); rintro e' w3 ⟨rfl, hx3⟩; have hz3 := hx3.size; (try simp at hz3); have hb3_0 : w.heap.size < w3.heap.size := (by omega); have r0 := (hx3.cells (w.heap.size) (0) (by first | omega | (simp <;> omega))).trans (show _ = some (.int .i64 2) by first | (with_reducible assumption) | go_simp); have r1 := (hx3.cells (w.heap.size) (1) (by first | omega | (simp <;> omega))).trans (show _ = some (.slice a1 n1 c1) by first | (with_reducible assumption) | go_simp); have r2 := (hx3.cells (w.heap.size) (2) (by first | omega | (simp <;> omega))).trans (show _ = some (.int .i64 c) by first | (with_reducible assumption) | go_simp); have r3 := (hx3.cells (w.heap.size) (3) (by first | omega | (simp <;> omega))).trans (show _ = some (.string s) by first | (with_reducible assumption) | go_simp); have r4 := (hx3.cells (w.heap.size) (4) (by first | omega | (simp <;> omega))).trans (show _ = some (.slice a2 n2 c2) by first | (with_reducible assumption) | go_simp); have r5 := (hx3.cells (w.heap.size) (5) (by first | omega | (simp <;> omega))).trans (show _ = some (.int .i64 e) by first | (with_reducible assumption) | go_simp); have r6 := (hx3.cells (w.heap.size) (6) (by first | omega | (simp <;> omega))).trans (show _ = some (.int .i64 mn) by first | (with_reducible assumption) | go_simp))
                  | (go_at_call 55; (with_reducible refine (HX.out _ extA).mono ?_); rintro e' w5 ⟨cs5, rfl, hm5, hx5⟩; obtain ⟨v5, rfl, hv5, _⟩ := hm5; obtain ⟨a5, n5, c5, rfl⟩ := hv5.slice; clear hv5)
                  | (go_at_call 30; (with_reducible refine (between_any _ _ _ _).mono ?_); rintro e' w' ⟨rfl, rfl⟩))
                go_ret
                exact ⟨rfl, extA⟩
            · rw [checkD_take_next k1 rfl H0.out g (bytes_nil h1) h2]
              have t3 : inB mn 1 60 = true := by unfold inB; simp; omega
              have t2 : decide (mn < 1) = false := decide_eq_false (by omega)
              have t4 : decide (60 < mn) = false := decide_eq_false (by omega)
              have b1 : 1 ≤ mn := by omega
              have b2 : mn ≤ 60 := by omega
              clear k1 h1 h2
              simp only
              generalize nextM (m, e) (mn - 1) = nx at *
              obtain ⟨⟨np, nc⟩, er⟩ := nx
              simp only at HX ⊢
              go_enter Try.func31, Try.ntmps31
              go_wp2_with (first
                | (go_at_call 52; (with_reducible refine (HR.out _ extA).mono ?_); rintro e' w1 ⟨rfl, hx1⟩; have hz1 := hx1.size; (try simp at hz1); have hb1_0 : w.heap.size < w1.heap.size := (by omega); have p0 := (hx1.cells (w.heap.size) (0) (by first | omega | (simp <;> omega))).trans (show _ = some (.int .i64 2) by first | (with_reducible assumption) | go_simp); have p1 := (hx1.cells (w.heap.size) (1) (by first | omega | (simp <;> omega))).trans (show _ = some (.slice a1 n1 c1) by first | (with_reducible assumption) | go_simp); have p2 := (hx1.cells (w.heap.size) (2) (by first | omega | (simp <;> omega))).trans (show _ = some (.int .i64 c) by first | (with_reducible assumption) | go_simp); have p3 := (hx1.cells (w.heap.size) (3) (by first | omega | (simp <;> omega))).trans (show _ = some (.string s) by first | (with_reducible assumption) | go_simp); have p4 := (hx1.cells (w.heap.size) (4) (by first | omega | (simp <;> omega))).trans (show _ = some (.slice a2 n2 c2) by first | (with_reducible assumption) | go_simp); have p5 := (hx1.cells (w.heap.size) (5) (by first | omega | (simp <;> omega))).trans (show _ = some (.int .i64 e) by first | (with_reducible assumption) | go_simp); have p6 := (hx1.cells (w.heap.size) (6) (by first | omega | (simp <;> omega))).trans (show _ = some (.int .i64 mn) by first | (with_reducible assumption) | go_simp))
                | (go_at_call 54; (with_reducible refine (HK.out _ extA).mono ?_); rintro e' w2 ⟨rfl, hx2⟩; have hz2 := hx2.size; (try simp at hz2); have hb2_0 : w.heap.size < w2.heap.size := (by omega); have q0 := (hx2.cells (w.heap.size) (0) (by first | omega | (simp <;> omega))).trans (show _ = some (.int .i64 2) by first | (with_reducible assumption) | go_simp); have q1 := (hx2.cells (w.heap.size) (1) (by first | omega | (simp <;> omega))).trans (show _ = some (.slice a1 n1 c1) by first | (with_reducible assumption) | go_simp); have q2 := (hx2.cells (w.heap.size) (2) (by first | omega | (simp <;> omega))).trans (show _ = some (.int .i64 c) by first | (with_reducible assumption) | go_simp); have q3 := (hx2.cells (w.heap.size) (3) (by first | omega | (simp <;> omega))).trans (show _ = some (.string s) by first | (with_reducible assumption) | go_simp); have q4 := (hx2.cells (w.heap.size) (4) (by first | omega | (simp <;> omega))).trans (show _ = some (.slice a2 n2 c2) by first | (with_reducible assumption) | go_simp); have q5 := (hx2.cells (w.heap.size) (5) (by first | omega | (simp <;> omega))).trans (show _ = some (.int .i64 e) by first | (with_reducible assumption) | go_simp); have q6 := (hx2.cells (w.heap.size) (6) (by first | omega | (simp <;> omega))).trans (show _ = some (.int .i64 mn) by first | (with_reducible assumption) | go_simp))
                | (go_at_call 53; (with_reducible refine (HN2.out _ extA).mono ?_); rintro e' w4 ⟨rfl, hx4⟩; have hz4 := hx4.size; (try simp at hz4); have hb4_0 : w.heap.size < w4.heap.size := (by omega); have s0 := (hx4.cells (w.heap.size) (0) (by first | omega | (simp <;> omega))).trans (show _ = some (.int .i64 2) by first | (with_reducible assumption) | go_simp); have s1 := (hx4.cells (w.heap.size) (1) (by first | omega | (simp <;> omega))).trans (show _ = some (.slice a1 n1 c1) by first | (with_reducible assumption) | go_simp); have s2 := (hx4.cells (w.heap.size) (2) (by first | omega | (simp <;> omega))).trans (show _ = some (.int .i64 c) by first | (with_reducible assumption) | go_simp); have s3 := (hx4.cells (w.heap.size) (3) (by first | omega | (simp <;> omega))).trans (show _ = some (.string s) by first | (with_reducible assumption) | go_simp); have s4 := (hx4.cells (w.heap.size) (4) (by first | omega | (simp <;> omega))).trans (show _ = some (.slice a2 n2 c2) by first | (with_reducible assumption) | go_simp); have s5 := (hx4.cells (w.heap.size) (5) (by first | omega | (simp <;> omega))).trans (show _ = some (.int .i64 e) by first | (with_reducible assumption) | go_simp); have s6 := (hx4.cells (w.heap.size) (6) (by first | omega | (simp <;> omega))).trans (show _ = some (.int .i64 mn) by first | (with_reducible assumption) | go_simp))
                | (go_at_call 53; (with_reducible refine (HN1.out _ extA).mono ?_); rintro e' w3 ⟨rfl, hx3⟩; have hz3 := hx3.size; (try simp at hz3); have hb3_0 : w.heap.size < w3.heap.size := (by omega); have r0 := (hx3.cells (w.heap.size) (0) (by first | omega | (simp <;> omega))).trans (show _ = some (.int .i64 2) by first | (with_reducible assumption) | go_simp); have r1 := (hx3.cells (w.heap.size) (1) (by first | omega | (simp <;> omega))).trans (show _ = some (.slice a1 n1 c1) by first | (with_reducible assumption) | go_simp); have r2 := (hx3.cells (w.heap.size) (2) (by first | omega | (simp <;> omega))).trans (show _ = some (.int .i64 c) by first | (with_reducible assumption) | go_simp); have r3 := (hx3.cells (w.heap.size) (3) (by first | omega | (simp <;> omega))).trans (show _ = some (.string s) by first | (with_reducible assumption) | go_simp); have r4 := (hx3.cells (w.heap.size) (4) (by first | omega | (simp <;> omega))).trans (show _ = some (.slice a2 n2 c2) by first | (with_reducible assumption) | go_simp); have r5 := (hx3.cells (w.heap.size) (5) (by first | omega | (simp <;> omega))).trans (show _ = some (.int .i64 e) by first | (with_reducible assumption) | go_simp); have r6 := (hx3.cells (w.heap.size) (6) (by first | omega | (simp <;> omega))).trans (show _ = some (.int .i64 mn) by first | (with_reducible assumption) | go_simp))
                | (go_at_call 55; (with_reducible refine (HX.out _ extA).mono ?_); rintro e' w5 ⟨cs5, rfl, hm5, hx5⟩; obtain ⟨v5, rfl, hv5, _⟩ := hm5; obtain ⟨a5, n5, c5, rfl⟩ := hv5.slice; clear hv5)
                | (go_at_call 30; (with_reducible refine (between_any _ _ _ _).mono ?_); rintro e' w' ⟨rfl, rfl⟩))
              go_ret
              exact ⟨rfl, extA⟩
          · rw [checkD_take_form k1 rfl H0.out (.inr (bytes_cons h1))]
            have t1 : s.toList.isEmpty = false := empty_no h1
            clear k1 h1
            go_enter Try.func31, Try.ntmps31
            go_wp2_with (first
              | (go_at_call 52; (with_reducible refine (HR.out _ extA).mono ?_); rintro e' w1 ⟨rfl, hx1⟩; have hz1 := hx1.size; (try simp at hz1); have hb1_0 : w.heap.size < w1.heap.size := (by omega); have p0 := (hx1.cells (w.heap.size) (0) (by first | omega | (simp <;> omega))).trans (show _ = some (.int .i64 2) by first | (with_reducible assumption) | go_simp); have p1 := (hx1.cells (w.heap.size) (1) (by first | omega | (simp <;> omega))).trans (show _ = some (.slice a1 n1 c1) by first | (with_reducible assumption) | go_simp); have p2 := (hx1.cells (w.heap.size) (2) (by first | omega | (simp <;> omega))).trans (show _ = some (.int .i64 c) by first | (with_reducible assumption) | go_simp); have p3 := (hx1.cells (w.heap.size) (3) (by first | omega | (simp <;> omega))).trans (show _ = some (.string s) by first | (with_reducible assumption) | go_simp); have p4 := (hx1.cells (w.heap.size) (4) (by first | omega | (simp <;> omega))).trans (show _ = some (.slice a2 n2 c2) by first | (with_reducible assumption) | go_simp); have p5 := (hx1.cells (w.heap.size) (5) (by first | omega | (simp <;> omega))).trans (show _ = some (.int .i64 e) by first | (with_reducible assumption) | go_simp); have p6 := (hx1.cells (w.heap.size) (6) (by first | omega | (simp <;> omega))).trans (show _ = some (.int .i64 mn) by first | (with_reducible assumption) | go_simp))
              | (go_at_call 54; (with_reducible refine (HK.out _ extA).mono ?_); rintro e' w2 ⟨rfl, hx2⟩; have hz2 := hx2.size; (try simp at hz2); have hb2_0 : w.heap.size < w2.heap.size := (by omega); have q0 := (hx2.cells (w.heap.size) (0) (by first | omega | (simp <;> omega))).trans (show _ = some (.int .i64 2) by first | (with_reducible assumption) | go_simp); have q1 := (hx2.cells (w.heap.size) (1) (by first | omega | (simp <;> omega))).trans (show _ = some (.slice a1 n1 c1) by first | (with_reducible assumption) | go_simp); have q2 := (hx2.cells (w.heap.size) (2) (by first | omega | (simp <;> omega))).trans (show _ = some (.int .i64 c) by first | (with_reducible assumption) | go_simp); have q3 := (hx2.cells (w.heap.size) (3) (by first | omega | (simp <;> omega))).trans (show _ = some (.string s) by first | (with_reducible assumption) | go_simp); have q4 := (hx2.cells (w.heap.size) (4) (by first | omega | (simp <;> omega))).trans (show _ = some (.slice a2 n2 c2) by first | (with_reducible assumption) | go_simp); have q5 := (hx2.cells (w.heap.size) (5) (by first | omega | (simp <;> omega))).trans (show _ = some (.int .i64 e) by first | (with_reducible assumption) | go_simp); have q6 := (hx2.cells (w.heap.size) (6) (by first | omega | (simp <;> omega))).trans (show _ = some (.int .i64 mn) by first | (with_reducible assumption) | go_simp))
              | (go_at_call 53; (with_reducible refine (HN2.out _ extA).mono ?_); rintro e' w4 ⟨rfl, hx4⟩; have hz4 := hx4.size; (try simp at hz4); have hb4_0 : w.heap.size < w4.heap.size := (by omega); have s0 := (hx4.cells (w.heap.size) (0) (by first | omega | (simp <;> omega))).trans (show _ = some (.int .i64 2) by first | (with_reducible assumption) | go_simp); have s1 := (hx4.cells (w.heap.size) (1) (by first | omega | (simp <;> omega))).trans (show _ = some (.slice a1 n1 c1) by first | (with_reducible assumption) | go_simp); have s2 := (hx4.cells (w.heap.size) (2) (by first | omega | (simp <;> omega))).trans (show _ = some (.int .i64 c) by first | (with_reducible assumption) | go_simp); have s3 := (hx4.cells (w.heap.size) (3) (by first | omega | (simp <;> omega))).trans (show _ = some (.string s) by first | (with_reducible assumption) | go_simp); have s4 := (hx4.cells (w.heap.size) (4) (by first | omega | (simp <;> omega))).trans (show _ = some (.slice a2 n2 c2) by first | (with_reducible assumption) | go_simp); have s5 := (hx4.cells (w.heap.size) (5) (by first | omega | (simp <;> omega))).trans (show _ = some (.int .i64 e) by first | (with_reducible assumption) | go_simp); have s6 := (hx4.cells (w.heap.size) (6) (by first | omega | (simp <;> omega))).trans (show _ = some (.int .i64 mn) by first | (with_reducible assumption) | go_simp))
              | (go_at_call 53; (with_reducible refine (HN1.out _ extA).mono ?_); rintro e' w3 ⟨rfl, hx3⟩; have hz3 := hx3.size; (try simp at hz3); have hb3_0 : w.heap.size < w3.heap.size := (by omega); have r0 := (hx3.cells (w.heap.size) (0) (by first | omega | (simp <;> omega))).trans (show _ = some (.int .i64 2) by first | (with_reducible assumption) | go_simp); have r1 := (hx3.cells (w.heap.size) (1) (by first | omega | (simp <;> omega))).trans (show _ = some (.slice a1 n1 c1) by first | (with_reducible assumption) | go_simp); have r2 := (hx3.cells (w.heap.size) (2) (by first | omega | (simp <;> omega))).trans (show _ = some (.int .i64 c) by first | (with_reducible assumption) | go_simp); have r3 := (hx3.cells (w.heap.size) (3) (by first | omega | (simp <;> omega))).trans (show _ = some (.string s) by first | (with_reducible assumption) | go_simp); have r4 := (hx3.cells (w.heap.size) (4) (by first | omega | (simp <;> omega))).trans (show _ = some (.slice a2 n2 c2) by first | (with_reducible assumption) | go_simp); have r5 := (hx3.cells (w.heap.size) (5) (by first | omega | (simp <;> omega))).trans (show _ = some (.int .i64 e) by first | (with_reducible assumption) | go_simp); have r6 := (hx3.cells (w.heap.size) (6) (by first | omega | (simp <;> omega))).trans (show _ = some (.int .i64 mn) by first | (with_reducible assumption) | go_simp))
              | (go_at_call 55; (with_reducible refine (HX.out _ extA).mono ?_); rintro e' w5 ⟨cs5, rfl, hm5, hx5⟩; obtain ⟨v5, rfl, hv5, _⟩ := hm5; obtain ⟨a5, n5, c5, rfl⟩ := hv5.slice; clear hv5)
              | (go_at_call 30; (with_reducible refine (between_any _ _ _ _).mono ?_); rintro e' w' ⟨rfl, rfl⟩))
            go_ret
            exact ⟨rfl, extA⟩
      · rw [checkD_take_bad k1 rfl h0]
        simp only
        have t1 : (checkM (m, e) != 0) = true := by simpa using h0
        generalize checkM (m, e) = r at *
        clear h0 k1
        go_enter Try.func31, Try.ntmps31
        go_wp2_with (first
          | (go_at_call 52; (with_reducible refine (HR.out _ extA).mono ?_); rintro e' w1 ⟨rfl, hx1⟩; have hz1 := hx1.size; (try simp at hz1); have hb1_0 : w.heap.size < w1.heap.size := (by omega); have p0 := (hx1.cells (w.heap.size) (0) (by first | omega | (simp <;> omega))).trans (show _ = some (.int .i64 2) by first | (with_reducible assumption) | go_simp); have p1 := (hx1.cells (w.heap.size) (1) (by first | omega | (simp <;> omega))).trans (show _ = some (.slice a1 n1 c1) by first | (with_reducible assumption) | go_simp); have p2 := (hx1.cells (w.heap.size) (2) (by first | omega | (simp <;> omega))).trans (show _ = some (.int .i64 c) by first | (with_reducible assumption) | go_simp); have p3 := (hx1.cells (w.heap.size) (3) (by first | omega | (simp <;> omega))).trans (show _ = some (.string s) by first | (with_reducible assumption) | go_simp); have p4 := (hx1.cells (w.heap.size) (4) (by first | omega | (simp <;> omega))).trans (show _ = some (.slice a2 n2 c2) by first | (with_reducible assumption) | go_simp); have p5 := (hx1.cells (w.heap.size) (5) (by first | omega | (simp <;> omega))).trans (show _ = some (.int .i64 e) by first | (with_reducible assumption) | go_simp); have p6 := (hx1.cells (w.heap.size) (6) (by first | omega | (simp <;> omega))).trans (show _ = some (.int .i64 mn) by first | (with_reducible assumption) | go_simp))
          | (go_at_call 54; (with_reducible refine (HK.out _ extA).mono ?_); rintro e' w2 ⟨rfl, hx2⟩; have hz2 := hx2.size; (try simp at hz2); have hb2_0 : w.heap.size < w2.heap.size := (by omega); have q0 := (hx2.cells (w.heap.size) (0) (by first | omega | (simp <;> omega))).trans (show _ = some (.int .i64 2) by first | (with_reducible assumption) | go_simp); have q1 := (hx2.cells (w.heap.size) (1) (by first | omega | (simp <;> omega))).trans (show _ = some (.slice a1 n1 c1) by first | (with_reducible assumption) | go_simp); have q2 := (hx2.cells (w.heap.size) (2) (by first | omega | (simp <;> omega))).trans (show _ = some (.int .i64 c) by first | (with_reducible assumption) | go_simp); have q3 := (hx2.cells (w.heap.size) (3) (by first | omega | (simp <;> omega))).trans (show _ = some (.string s) by first | (with_reducible assumption) | go_simp); have q4 := (hx2.cells (w.heap.size) (4) (by first | omega | (simp <;> omega))).trans (show _ = some (.slice a2 n2 c2) by first | (with_reducible assumption) | go_simp); have q5 := (hx2.cells (w.heap.size) (5) (by first | omega | (simp <;> omega))).trans (show _ = some (.int .i64 e) by first | (with_reducible assumption) | go_simp); have q6 := (hx2.cells (w.heap.size) (6) (by first | omega | (simp <;> omega))).trans (show _ = some (.int .i64 mn) by first | (with_reducible assumption) | go_simp))
          | (go_at_call 53; (with_reducible refine (HN2.out _ extA).mono ?_); rintro e' w4 ⟨rfl, hx4⟩; have hz4 := hx4.size; (try simp at hz4); have hb4_0 : w.heap.size < w4.heap.size := (by omega); have s0 := (hx4.cells (w.heap.size) (0) (by first | omega | (simp <;> omega))).trans (show _ = some (.int .i64 2) by first | (with_reducible assumption) | go_simp); have s1 := (hx4.cells (w.heap.size) (1) (by first | omega | (simp <;> omega))).trans (show _ = some (.slice a1 n1 c1) by first | (with_reducible assumption) | go_simp); have s2 := (hx4.cells (w.heap.size) (2) (by first | omega | (simp <;> omega))).trans (show _ = some (.int .i64 c) by first | (with_reducible assumption) | go_simp); have s3 := (hx4.cells (w.heap.size) (3) (by first | omega | (simp <;> omega))).trans (show _ = some (.string s) by first | (with_reducible assumption) | go_simp); have s4 := (hx4.cells (w.heap.size) (4) (by first | omega | (simp <;> omega))).trans (show _ = some (.slice a2 n2 c2) by first | (with_reducible assumption) | go_simp); have s5 := (hx4.cells (w.heap.size) (5) (by first | omega | (simp <;> omega))).trans (show _ = some (.int .i64 e) by first | (with_reducible assumption) | go_simp); have s6 := (hx4.cells (w.heap.size) (6) (by first | omega | (simp <;> omega))).trans (show _ = some (.int .i64 mn) by first | (with_reducible assumption) | go_simp))
          | (go_at_call 53; (with_reducible refine (HN1.out _ extA).mono ?_); rintro e' w3 ⟨rfl, hx3⟩; have hz3 := hx3.size; (try simp at hz3); have hb3_0 : w.heap.size < w3.heap.size := (by omega); have r0 := (hx3.cells (w.heap.size) (0) (by first | omega | (simp <;> omega))).trans (show _ = some (.int .i64 2) by first | (with_reducible assumption) | go_simp); have r1 := (hx3.cells (w.heap.size) (1) (by first | omega | (simp <;> omega))).trans (show _ = some (.slice a1 n1 c1) by first | (with_reducible assumption) | go_simp); have r2 := (hx3.cells (w.heap.size) (2) (by first | omega | (simp <;> omega))).trans (show _ = some (.int .i64 c) by first | (with_reducible assumption) | go_simp); have r3 := (hx3.cells (w.heap.size) (3) (by first | omega | (simp <;> omega))).trans (show _ = some (.string s) by first | (with_reducible assumption) | go_simp); have r4 := (hx3.cells (w.heap.size) (4) (by first | omega | (simp <;> omega))).trans (show _ = some (.slice a2 n2 c2) by first | (with_reducible assumption) | go_simp); have r5 := (hx3.cells (w.heap.size) (5) (by first | omega | (simp <;> omega))).trans (show _ = some (.int .i64 e) by first | (with_reducible assumption) | go_simp); have r6 := (hx3.cells (w.heap.size) (6) (by first | omega | (simp <;> omega))).trans (show _ = some (.int .i64 mn) by first | (with_reducible assumption) | go_simp))
          | (go_at_call 55; (with_reducible refine (HX.out _ extA).mono ?_); rintro e' w5 ⟨cs5, rfl, hm5, hx5⟩; obtain ⟨v5, rfl, hv5, _⟩ := hm5; obtain ⟨a5, n5, c5, rfl⟩ := hv5.slice; clear hv5)
          | (go_at_call 30; (with_reducible refine (between_any _ _ _ _).mono ?_); rintro e' w' ⟨rfl, rfl⟩))
        go_ret
        exact ⟨rfl, extA⟩
    · rw [checkD_kind k1 k2]
      have t1 : (kd == 2) = false := by simpa using k2
      have t2 : (kd != 2) = true := by simpa using k2
      clear k1 k2
      go_enter Try.func31, Try.ntmps31
      go_wp2_with (first
        | (go_at_call 52; (with_reducible refine (HR.out _ extA).mono ?_); rintro e' w1 ⟨rfl, hx1⟩; have hz1 := hx1.size; (try simp at hz1); have hb1_0 : w.heap.size < w1.heap.size := (by omega); have p0 := (hx1.cells (w.heap.size) (0) (by first | omega | (simp <;> omega))).trans (show _ = some (.int .i64 kd) by first | (with_reducible assumption) | go_simp); have p1 := (hx1.cells (w.heap.size) (1) (by first | omega | (simp <;> omega))).trans (show _ = some (.slice a1 n1 c1) by first | (with_reducible assumption) | go_simp); have p2 := (hx1.cells (w.heap.size) (2) (by first | omega | (simp <;> omega))).trans (show _ = some (.int .i64 c) by first | (with_reducible assumption) | go_simp); have p3 := (hx1.cells (w.heap.size) (3) (by first | omega | (simp <;> omega))).trans (show _ = some (.string s) by first | (with_reducible assumption) | go_simp); have p4 := (hx1.cells (w.heap.size) (4) (by first | omega | (simp <;> omega))).trans (show _ = some (.slice a2 n2 c2) by first | (with_reducible assumption) | go_simp); have p5 := (hx1.cells (w.heap.size) (5) (by first | omega | (simp <;> omega))).trans (show _ = some (.int .i64 e) by first | (with_reducible assumption) | go_simp); have p6 := (hx1.cells (w.heap.size) (6) (by first | omega | (simp <;> omega))).trans (show _ = some (.int .i64 mn) by first | (with_reducible assumption) | go_simp))
        | (go_at_call 54; (with_reducible refine (HK.out _ extA).mono ?_); rintro e' w2 ⟨rfl, hx2⟩; have hz2 := hx2.size; (try simp at hz2); have hb2_0 : w.heap.size < w2.heap.size := (by omega); have q0 := (hx2.cells (w.heap.size) (0) (by first | omega | (simp <;> omega))).trans (show _ = some (.int .i64 kd) by first | (with_reducible assumption) | go_simp); have q1 := (hx2.cells (w.heap.size) (1) (by first | omega | (simp <;> omega))).trans (show _ = some (.slice a1 n1 c1) by first | (with_reducible assumption) | go_simp); have q2 := (hx2.cells (w.heap.size) (2) (by first | omega | (simp <;> omega))).trans (show _ = some (.int .i64 c) by first | (with_reducible assumption) | go_simp); have q3 := (hx2.cells (w.heap.size) (3) (by first | omega | (simp <;> omega))).trans (show _ = some (.string s) by first | (with_reducible assumption) | go_simp); have q4 := (hx2.cells (w.heap.size) (4) (by first | omega | (simp <;> omega))).trans (show _ = some (.slice a2 n2 c2) by first | (with_reducible assumption) | go_simp); have q5 := (hx2.cells (w.heap.size) (5) (by first | omega | (simp <;> omega))).trans (show _ = some (.int .i64 e) by first | (with_reducible assumption) | go_simp); have q6 := (hx2.cells (w.heap.size) (6) (by first | omega | (simp <;> omega))).trans (show _ = some (.int .i64 mn) by first | (with_reducible assumption) | go_simp))
        | (go_at_call 53; (with_reducible refine (HN2.out _ extA).mono ?_); rintro e' w4 ⟨rfl, hx4⟩; have hz4 := hx4.size; (try simp at hz4); have hb4_0 : w.heap.size < w4.heap.size := (by omega); have s0 := (hx4.cells (w.heap.size) (0) (by first | omega | (simp <;> omega))).trans (show _ = some (.int .i64 kd) by first | (with_reducible assumption) | go_simp); have s1 := (hx4.cells (w.heap.size) (1) (by first | omega | (simp <;> omega))).trans (show _ = some (.slice a1 n1 c1) by first | (with_reducible assumption) | go_simp); have s2 := (hx4.cells (w.heap.size) (2) (by first | omega | (simp <;> omega))).trans (show _ = some (.int .i64 c) by first | (with_reducible assumption) | go_simp); have s3 := (hx4.cells (w.heap.size) (3) (by first | omega | (simp <;> omega))).trans (show _ = some (.string s) by first | (with_reducible assumption) | go_simp); have s4 := (hx4.cells (w.heap.size) (4) (by first | omega | (simp <;> omega))).trans (show _ = some (.slice a2 n2 c2) by first | (with_reducible assumption) | go_simp); have s5 := (hx4.cells (w.heap.size) (5) (by first | omega | (simp <;> omega))).trans (show _ = some (.int .i64 e) by first | (with_reducible assumption) | go_simp); have s6 := (hx4.cells (w.heap.size) (6) (by first | omega | (simp <;> omega))).trans (show _ = some (.int .i64 mn) by first | (with_reducible assumption) | go_simp))
        | (go_at_call 53; (with_reducible refine (HN1.out _ extA).mono ?_); rintro e' w3 ⟨rfl, hx3⟩; have hz3 := hx3.size; (try simp at hz3); have hb3_0 : w.heap.size < w3.heap.size := (by omega); have r0 := (hx3.cells (w.heap.size) (0) (by first | omega | (simp <;> omega))).trans (show _ = some (.int .i64 kd) by first | (with_reducible assumption) | go_simp); have r1 := (hx3.cells (w.heap.size) (1) (by first | omega | (simp <;> omega))).trans (show _ = some (.slice a1 n1 c1) by first | (with_reducible assumption) | go_simp); have r2 := (hx3.cells (w.heap.size) (2) (by first | omega | (simp <;> omega))).trans (show _ = some (.int .i64 c) by first | (with_reducible assumption) | go_simp); have r3 := (hx3.cells (w.heap.size) (3) (by first | omega | (simp <;> omega))).trans (show _ = some (.string s) by first | (with_reducible assumption) | go_simp); have r4 := (hx3.cells (w.heap.size) (4) (by first | omega | (simp <;> omega))).trans (show _ = some (.slice a2 n2 c2) by first | (with_reducible assumption) | go_simp); have r5 := (hx3.cells (w.heap.size) (5) (by first | omega | (simp <;> omega))).trans (show _ = some (.int .i64 e) by first | (with_reducible assumption) | go_simp); have r6 := (hx3.cells (w.heap.size) (6) (by first | omega | (simp <;> omega))).trans (show _ = some (.int .i64 mn) by first | (with_reducible assumption) | go_simp))
        | (go_at_call 55; (with_reducible refine (HX.out _ extA).mono ?_); rintro e' w5 ⟨cs5, rfl, hm5, hx5⟩; obtain ⟨v5, rfl, hv5, _⟩ := hm5; obtain ⟨a5, n5, c5, rfl⟩ := hv5.slice; clear hv5)
        | (go_at_call 30; (with_reducible refine (between_any _ _ _ _).mono ?_); rintro e' w' ⟨rfl, rfl⟩))
      go_ret
      exact ⟨rfl, extA⟩
end Go.Proofs.Ytiladkinndgeaaa
/- Lists of numbers: as they lie; is there a bad one? -/
namespace Go.Proofs.Ytiladkinndgeaaa
open Go Go.RowKit Go.BigFrame Cp

def badI (n : Int) : Bool := !inB n 0 500
theorem int_at {F : Nat → Prop} {w : World} {a : Option Addr} {n cap : Nat} {q : List Int} (h : RSl RInt 1 F w (.slice a n cap) q) {i : Nat} (hi : i < n) :
    ∃ b o x, a = some ⟨b, o, none⟩ ∧ b < w.heap.size ∧ q[i]? = some x ∧ I64 x ∧ w.cell? ⟨b, o + i, none⟩ = some (.int .i64 x) := by
  obtain ⟨b, o, x, cs, e1, e2, e3, _, e4, ⟨rfl, i1⟩⟩ := h.at_ hi
  exact ⟨b, o, x, e1, e2, e3, i1, by simpa using e4 0 _ rfl⟩
theorem withinW_any (n a b : Int) (w : World) : Calls Try.prog 40 #[.int .i64 n, .int .i64 a, .int .i64 b] w fun e w' => e = .returned (.bool (inB n a b)) ∧ w = w' := by
  go_enter Try.func40, Try.ntmps40
  go_wp2
  all_goals go_ret
  all_goals first | exact ⟨rb (inB_no ‹_›), rfl⟩ | exact ⟨rb (inB_yes ‹_›), rfl⟩
theorem badW_any (n : Int) (w : World) : Calls Try.prog 42 #[.int .i64 n] w fun e w' => e = .returned (.bool (badI n)) ∧ w = w' := by
  go_enter Try.func42, Try.ntmps42
  go_wp2_with (go_at_call 40; refine (withinW_any _ _ _ _).mono ?_; rintro e w' ⟨rfl, rfl⟩)
  go_ret
  exact ⟨rfl, rfl⟩
set_option maxRecDepth 100000 in
theorem idxIntW_any {F : Nat → Prop} {w : World} {v : Value} {l : List Int} (h : RSl RInt 1 F w v l) :
    Calls Try.prog 59 #[v, .func (.func 42) #[] #[]] w (IsIdx (l.any badI) w) := by
  obtain ⟨a1, n1, c1, rfl⟩ := h.slice
  obtain ⟨rfl, k1, k1'⟩ := h.len
  unfold maxLen at k1'
  have q1 : l.length ≤ 9223372036854775807 := by omega
  clear k1 k1'
  have HL := Lib.hid h
  clear h
  go_enter Try.func59, Try.ntmps59
  go_wp2
  go_loopw [8] (fun i wr => ∃ k : Nat, k ≤ l.length ∧ i = .int .i64 k ∧ Hid ((l.take k).any badI = false) ∧ Ext w wr) (fun i _ => l.length - (intOf i).toNat)
  case atStart => exact ⟨0, by omega, rfl, Lib.hid (by simp), ext_refl _⟩
  case round =>
    obtain ⟨k, hk1, rfl, ho, hx⟩ := hrel
    have HX := Lib.hid hx
    clear hx
    by_cases h1 : k < l.length
    · obtain ⟨b1, o1, x1, rfl, hb1, e1, _, ca⟩ := int_at (HL.out.ext gInt HX.out) h1
      have HA := Lib.hid (anyp_step (p := badI) e1)
      clear e1 hb1
      cases g1 : badI x1 with
      | true =>
        have HC := Lib.hid (anyp_of_take (k := k + 1) (by rw [HA.out, ho.out, g1]; rfl))
        go_wp2_with (go_at_call 42; refine (badW_any _ _).mono ?_; rintro e w1 ⟨rfl, rfl⟩)
        go_ret
        exact ⟨k, by rw [HC.out]; simp, rfl, HX.out⟩
      | false =>
        have HD := Lib.hid (show (l.take (k + 1)).any badI = false by rw [HA.out, ho.out, g1]; rfl)
        go_wp2_with (go_at_call 42; refine (badW_any _ _).mono ?_; rintro e w1 ⟨rfl, rfl⟩)
        go_roundw
        case rel => exact ⟨k + 1, by omega, by go_num, HD, HX.out⟩
        case measure => simp [intOf]; omega
    · have hk : k = l.length := by omega
      subst hk
      have ho' := ho.out
      rw [List.take_of_length_le (Nat.le_refl _)] at ho'
      have HO := Lib.hid ho'
      clear ho ho'
      go_wp2
      go_ret
      exact ⟨-1, by rw [HO.out]; rfl, rfl, HX.out⟩
theorem containsIntW_any {F : Nat → Prop} {w : World} {v : Value} {l : List Int} (h : RSl RInt 1 F w v l) :
    Calls Try.prog 41 #[v, .func (.func 42) #[] #[]] w fun e w' => e = .returned (.bool (l.any badI)) ∧ Ext w w' := by
  have H := Lib.hid (idxIntW_any h)
  obtain ⟨a1, n1, c1, rfl⟩ := h.slice
  clear h
  go_enter Try.func41, Try.ntmps41
  go_wp2_with (go_at_call 59; refine H.out.mono ?_; rintro e w1 ⟨n, hn, rfl, hx1⟩; have HN := Lib.hid hn; clear hn)
  go_ret
  exact ⟨rb HN.out, hx1⟩

end Go.Proofs.Ytiladkinndgeaaa
/- What is wrong with a note: step by step. -/
namespace Go.Proofs.Ytiladkinndgeaaa
open Go Go.RowKit Go.BigFrame Cp

def checkN (n : No) : Int :=
  if inB n.site 0 4 = false ∨ inB n.number 1 500 = false then 3
  else if n.needs.length ≠ 5 then 1
  else if n.needs.any badI = true then 3
  else if n.needs[n.site.toNat]?.getD 0 ≠ n.number - 1 then 4
  else if n.deeds.length = 0 then 1
  else if 20 < n.deeds.length then 2
  else checkDL n.deeds
section
variable {n : No}
theorem checkN_site (h : inB n.site 0 4 = false) : checkN n = 3 := by unfold checkN; rw [if_pos (.inl h)]
theorem checkN_number (h : inB n.number 1 500 = false) : checkN n = 3 := by unfold checkN; rw [if_pos (.inr h)]
theorem checkN_len (h : inB n.site 0 4 = true) (h2 : inB n.number 1 500 = true) (h3 : n.needs.length ≠ 5) : checkN n = 1 := by unfold checkN; rw [if_neg (by rw [h, h2]; simp), if_pos h3]
theorem checkN_needs (h : inB n.site 0 4 = true) (h2 : inB n.number 1 500 = true) (h3 : n.needs.length = 5) (h4 : n.needs.any badI = true) : checkN n = 3 := by
  unfold checkN; rw [if_neg (by rw [h, h2]; simp), if_neg (by simpa using h3), if_pos h4]
theorem checkN_rest (h : inB n.site 0 4 = true) (h2 : inB n.number 1 500 = true) (h3 : n.needs.length = 5) (h4 : n.needs.any badI = false) : checkN n =
    if n.needs[n.site.toNat]?.getD 0 ≠ n.number - 1 then 4 else if n.deeds.length = 0 then 1 else if 20 < n.deeds.length then 2 else checkDL n.deeds := by
  unfold checkN; rw [if_neg (by rw [h, h2]; simp), if_neg (by simpa using h3), if_neg (by rw [h4]; simp)]
end
theorem site_nat {s : Int} (h : inB s 0 4 = true) : ∃ j : Nat, s = (j : Int) ∧ j < 5 := by
  unfold inB at h
  simp at h
  exact ⟨s.toNat, by omega, by omega⟩
theorem num_rng {s : Int} (h : inB s 1 500 = true) : 1 ≤ s ∧ s ≤ 500 := by
  unfold inB at h
  simpa using h
theorem rno_of {F : Nat → Prop} {w : World} {v u : Value} {s k : Int} {l : List Int} {q : List De} (hs : I64 s) (hk : I64 k) (hl : RSl RInt 1 F w v l) (hq : RSl RDe 7 F w u q) : RNo F w [.int .i64 s, .int .i64 k, v, u] ⟨s, k, l, q⟩ := ⟨v, u, rfl, hs, hk, hl, hq⟩
end Go.Proofs.Ytiladkinndgeaaa
/- What is wrong with a note, by the program. -/
namespace Go.Proofs.Ytiladkinndgeaaa
open Go Go.RowKit Go.BigFrame Cp

set_option maxRecDepth 100000 in
set_option maxHeartbeats 4000000 in
theorem checkNoteP_any {F : Nat → Prop} {w : World} {cs : List Value} {n : No} (h : RNo F w cs n) :
    Calls Try.prog 13 #[.agg cs.toArray] w fun e w' => e = .returned (.int .i64 (checkN n)) ∧ Ext w w' := by
  obtain ⟨v, u, rfl, hi, hj, hl, hd⟩ := h
  obtain ⟨st, nb, l, q⟩ := n
  simp only at hi hj hl hd ⊢
  have HL := Lib.hid (fun (W : World) (hx : Ext w W) => hl.ext gInt hx)
  have HD := Lib.hid (fun (W : World) (hx : Ext w W) => hd.ext gDe hx)
  have HCI := Lib.hid (fun (W : World) (hx : Ext w W) => containsIntW_any (hl.ext gInt hx))
  obtain ⟨al, nl, cl, rfl⟩ := hl.slice
  obtain ⟨rfl, _, _⟩ := hl.len
  obtain ⟨ad, nd, cd, rfl⟩ := hd.slice
  obtain ⟨rfl, hn1, hn2⟩ := hd.len
  unfold maxLen at hn2
  have q1 : q.length ≤ 9223372036854775807 := by omega
  clear hl hd hn1 hn2 hi hj
  cases g1 : inB st 0 4 with
  | false =>
    rw [checkN_site g1]
    go_enter Try.func13, Try.ntmps13
    go_wp2_with (first
      | (go_at_call 39; (with_reducible refine (site_any _ _).mono ?_); rintro e w' ⟨rfl, rfl⟩)
      | (go_at_call 40; (with_reducible refine (withinW_any _ _ _ _).mono ?_); rintro e w' ⟨rfl, rfl⟩))
    go_ret
    exact ⟨rfl, extA⟩
  | true =>
  cases g2 : inB nb 1 500 with
  | false =>
    rw [checkN_number g2]
    go_enter Try.func13, Try.ntmps13
    go_wp2_with (first
      | (go_at_call 39; (with_reducible refine (site_any _ _).mono ?_); rintro e w' ⟨rfl, rfl⟩)
      | (go_at_call 40; (with_reducible refine (withinW_any _ _ _ _).mono ?_); rintro e w' ⟨rfl, rfl⟩))
    go_ret
    exact ⟨rfl, extA⟩
  | true =>
  by_cases g3 : l.length = 5
  · have t3 : ((l.length : Int) != 5) = false := by rw [g3]; rfl
    have HG3 := Lib.hid g3
    obtain ⟨j, rfl, hj⟩ := site_nat g1
    obtain ⟨b1, b2⟩ := num_rng g2
    have hjl : j < l.length := by omega
    obtain ⟨bn, on, x, rfl, hbn, ex, ix, y0⟩ := int_at (HL.out w (ext_refl _)) hjl
    have HEX := Lib.hid (show l[(j : Int).toNat]?.getD 0 = x by simp [ex])
    have hn1 : ¬ bn = w.heap.size := by omega
    have hn2 : ¬ w.heap.size = bn := by omega
    clear g3 ex
    cases g4 : l.any badI with
    | true =>
      rw [checkN_needs g1 g2 HG3.out g4]
      rw [g4] at HCI
      clear HD
      go_enter Try.func13, Try.ntmps13
      go_wp2_with (first
        | (go_at_call 39; (with_reducible refine (site_any _ _).mono ?_); rintro e w' ⟨rfl, rfl⟩)
        | (go_at_call 40; (with_reducible refine (withinW_any _ _ _ _).mono ?_); rintro e w' ⟨rfl, rfl⟩)
        | (go_at_call 41; go_must ((with_reducible refine (HCI.out _ extA).mono ?_); rintro e w1 ⟨rfl, hx1⟩; have hz1 := hx1.size; (try simp at hz1); have hb1_0 : w.heap.size < w1.heap.size := (by omega); have p0 := (hx1.cells (w.heap.size) (0) (by first | omega | (simp <;> omega))).trans (show _ = some (.int .i64 (j : Nat)) by first | (with_reducible assumption) | go_simp); have p1 := (hx1.cells (w.heap.size) (1) (by first | omega | (simp <;> omega))).trans (show _ = some (.int .i64 nb) by first | (with_reducible assumption) | go_simp); have p2 := (hx1.cells (w.heap.size) (2) (by first | omega | (simp <;> omega))).trans (show _ = some (.slice (some ⟨bn, on, none⟩) l.length cl) by first | (with_reducible assumption) | go_simp); have p3 := (hx1.cells (w.heap.size) (3) (by first | omega | (simp <;> omega))).trans (show _ = some (.slice ad q.length cd) by first | (with_reducible assumption) | go_simp))))
      go_ret
      exact ⟨rfl, extA⟩
    | false =>
      have HR := Lib.hid (checkN_rest (n := ⟨(j : Nat), nb, l, q⟩) g1 g2 HG3.out g4)
      simp only at HR
      rw [g4] at HCI
      go_enter Try.func13, Try.ntmps13
      go_wp2_with (first
        | (go_at_call 39; (with_reducible refine (site_any _ _).mono ?_); rintro e w' ⟨rfl, rfl⟩)
        | (go_at_call 40; (with_reducible refine (withinW_any _ _ _ _).mono ?_); rintro e w' ⟨rfl, rfl⟩)
        | (go_at_call 41; go_must ((with_reducible refine (HCI.out _ extA).mono ?_); rintro e w1 ⟨rfl, hx1⟩; have hz1 := hx1.size; (try simp at hz1); have hb1_0 : w.heap.size < w1.heap.size := (by omega); have p0 := (hx1.cells (w.heap.size) (0) (by first | omega | (simp <;> omega))).trans (show _ = some (.int .i64 (j : Nat)) by first | (with_reducible assumption) | go_simp); have p1 := (hx1.cells (w.heap.size) (1) (by first | omega | (simp <;> omega))).trans (show _ = some (.int .i64 nb) by first | (with_reducible assumption) | go_simp); have p2 := (hx1.cells (w.heap.size) (2) (by first | omega | (simp <;> omega))).trans (show _ = some (.slice (some ⟨bn, on, none⟩) l.length cl) by first | (with_reducible assumption) | go_simp); have p3 := (hx1.cells (w.heap.size) (3) (by first | omega | (simp <;> omega))).trans (show _ = some (.slice ad q.length cd) by first | (with_reducible assumption) | go_simp); have y5 := (hx1.cells bn (on + j) (by first | omega | (simp <;> omega))).trans (show _ = some (.int .i64 x) by first | (with_reducible assumption) | go_simp))))
      by_cases g5 : x = nb - 1
      · have t5 : (x != nb - 1) = false := by rw [g5]; simp
        have H5 := Lib.hid g5
        clear g5
        refine wp_name (fun W2 eW2 => ?_)
        have e0 : W2.cell? ⟨w.heap.size, 0, none⟩ = some (.int .i64 (j : Nat)) := by rw [eW2]; go_simp
        have e1 : W2.cell? ⟨w.heap.size, 1, none⟩ = some (.int .i64 nb) := by rw [eW2]; go_simp
        have e2 : W2.cell? ⟨w.heap.size, 2, none⟩ = some (.slice (some ⟨bn, on, none⟩) l.length cl) := by rw [eW2]; go_simp
        have e3 : W2.cell? ⟨w.heap.size, 3, none⟩ = some (.slice ad q.length cd) := by rw [eW2]; go_simp
        have e4 : W2.cell? ⟨bn, on + j, none⟩ = some (.int .i64 x) := by rw [eW2]; go_simp
        have zW2_0 : w.heap.size < W2.heap.size := by rw [eW2]; first | assumption | omega | (simp <;> omega)
        have zW2_1 : bn < W2.heap.size := by rw [eW2]; first | assumption | omega | (simp <;> omega)
        have hw2 : Ext w W2 := by rw [eW2]; exact extA
        clear eW2
        refine wp_region_later fol (by kernel_rfl) (fun hlater => ?_)
        repeat (go_big_quiet_step ((fail)))
        refine wpQuiet_nil ?_
        rintro w3 ⟨⟨w3x, hx3⟩, rfl⟩
        clear hlater
        have fz0 := (hx3.cells (w.heap.size) (0) (by omega)).trans e0
        have fz1 := (hx3.cells (w.heap.size) (1) (by omega)).trans e1
        have fz2 := (hx3.cells (w.heap.size) (2) (by omega)).trans e2
        have fz3 := (hx3.cells (w.heap.size) (3) (by omega)).trans e3
        have hz3 := hx3.size
        have hb3 : w.heap.size < w3.heap.size := by omega
        have hw3 : Ext w w3 := ext_trans hw2 hx3
        clear hx3 hw2 e0 e1 e2 e3 e4
        by_cases g6 : q.length = 0
        · have t6 : ((q.length : Int) == 0) = true := by rw [beq_iff_eq]; omega
          go_wp2_with fail
          go_ret
          exact ⟨ri (by rw [HR.out, if_neg (by rw [HEX.out, H5.out]; simp), if_pos g6]), hw3⟩
        have t6 : ((q.length : Int) == 0) = false := by rw [beq_eq_false_iff_ne]; omega
        by_cases g7 : 20 < q.length
        · go_wp2_with fail
          go_ret
          exact ⟨ri (by rw [HR.out, if_neg (by rw [HEX.out, H5.out]; simp), if_neg g6, if_pos g7]), hw3⟩
        have HI0 := Lib.hid (show checkN ⟨(j : Nat), nb, l, q⟩ = checkDL (q.drop 0) by rw [HR.out, if_neg (by rw [HEX.out, H5.out]; simp), if_neg g6, if_neg g7]; rfl)
        clear HR HEX H5 g6
        have HW3 := Lib.hid hw3
        clear hw3
        go_wp2_with fail
        go_loopw [50] (fun i wr => ∃ k : Nat, k ≤ q.length ∧ i = .int .i64 k ∧ Hid (checkN ⟨(j : Nat), nb, l, q⟩ = checkDL (q.drop k)) ∧ Ext w3 wr) (fun i _ => q.length - (intOf i).toNat)
        case atStart => exact ⟨0, Nat.zero_le _, rfl, HI0, ext_refl _⟩
        case round =>
          obtain ⟨k, hk, rfl, HI, hx⟩ := hrel
          have z0 := (hx.cells w.heap.size 0 hb3).trans fz0
          have z1 := (hx.cells w.heap.size 1 hb3).trans fz1
          have z2 := (hx.cells w.heap.size 2 hb3).trans fz2
          have z3 := (hx.cells w.heap.size 3 hb3).trans fz3
          have hzr := hx.size
          have hbr : w.heap.size < wr.heap.size := by omega
          have HX := Lib.hid (ext_trans HW3.out hx)
          have HXQ := Lib.hid hx
          clear hx
          by_cases hlt : k < q.length
          · obtain ⟨b, o, d, a1, n1, c1, a2, n2, c2, s, rfl, hb, ek, hdd, y0, y1, y2, y3, y4, y5, y6⟩ := deed_at (HD.out wr HX.out) hlt
            have HC := Lib.hid (fun (W : World) (hx : Ext wr W) => checkDeedP_any (gDe.ext hdd hx))
            have hn3 : ¬ b = wr.heap.size := by omega
            have hn4 : ¬ wr.heap.size = b := by omega
            clear hdd
            by_cases g8 : checkD d = 0
            · have HN := Lib.hid (HI.out.trans (checkDL_next ek g8))
              rw [g8] at HC
              clear g8 ek
              go_wp2_with (go_at_call 43; go_must ((with_reducible refine (HC.out _ extA).mono ?_); rintro e w4 ⟨rfl, hx4⟩; have hz4 := hx4.size; (try simp at hz4); have hb4_0 : w.heap.size < w4.heap.size := (by omega); have v0 := (hx4.cells (w.heap.size) (3) (by first | omega | (simp <;> omega))).trans (show _ = some (.slice (some ⟨b, o, none⟩) q.length cd) by first | (with_reducible assumption) | go_simp)))
              go_roundw
              case rel => exact ⟨k + 1, by omega, by go_num, HN, ext_trans HXQ.out extA⟩
              case measure => simp [intOf]; omega
            · have HN := Lib.hid (HI.out.trans (checkDL_bad ek g8))
              have t8 : (checkD d != 0) = true := by simpa using g8
              generalize checkD d = cd' at *
              clear g8 ek
              go_wp2_with (go_at_call 43; go_must ((with_reducible refine (HC.out _ extA).mono ?_); rintro e w4 ⟨rfl, hx4⟩; have hz4 := hx4.size; (try simp at hz4); have hb4_0 : w.heap.size < w4.heap.size := (by omega); have v0 := (hx4.cells (w.heap.size) (3) (by first | omega | (simp <;> omega))).trans (show _ = some (.slice (some ⟨b, o, none⟩) q.length cd) by first | (with_reducible assumption) | go_simp)))
              go_ret
              exact ⟨ri HN.out.symm, ext_trans HX.out extA⟩
          · go_wp2_with fail
            go_ret
            exact ⟨ri (by rw [HI.out, checkDL_end (by omega)]), HX.out⟩
      · have t5 : (x != nb - 1) = true := by simpa using g5
        refine wp_name (fun W2 eW2 => ?_)
        have e0 : W2.cell? ⟨w.heap.size, 0, none⟩ = some (.int .i64 (j : Nat)) := by rw [eW2]; go_simp
        have e1 : W2.cell? ⟨w.heap.size, 1, none⟩ = some (.int .i64 nb) := by rw [eW2]; go_simp
        have e2 : W2.cell? ⟨w.heap.size, 2, none⟩ = some (.slice (some ⟨bn, on, none⟩) l.length cl) := by rw [eW2]; go_simp
        have e3 : W2.cell? ⟨w.heap.size, 3, none⟩ = some (.slice ad q.length cd) := by rw [eW2]; go_simp
        have e4 : W2.cell? ⟨bn, on + j, none⟩ = some (.int .i64 x) := by rw [eW2]; go_simp
        have zW2_0 : w.heap.size < W2.heap.size := by rw [eW2]; first | assumption | omega | (simp <;> omega)
        have zW2_1 : bn < W2.heap.size := by rw [eW2]; first | assumption | omega | (simp <;> omega)
        have hw2 : Ext w W2 := by rw [eW2]; exact extA
        clear eW2
        refine wp_region_later fol (by kernel_rfl) (fun hlater => ?_)
        repeat (go_big_quiet_step ((fail)))
        refine wpQuiet_nil ?_
        rintro w3 ⟨⟨w3x, hx3⟩, rfl⟩
        clear hlater
        go_wp2_with fail
        go_ret
        exact ⟨ri (by rw [HR.out, if_pos (by rw [HEX.out]; exact g5)]), ext_trans hw2 hx3⟩
  · rw [checkN_len g1 g2 g3]
    have t3 : ((l.length : Int) != 5) = true := by rw [bne_iff_ne]; omega
    clear g3
    go_enter Try.func13, Try.ntmps13
    go_wp2_with (first
      | (go_at_call 39; (with_reducible refine (site_any _ _).mono ?_); rintro e w' ⟨rfl, rfl⟩)
      | (go_at_call 40; (with_reducible refine (withinW_any _ _ _ _).mono ?_); rintro e w' ⟨rfl, rfl⟩))
    go_ret
    exact ⟨rfl, extA⟩
end Go.Proofs.Ytiladkinndgeaaa
/- What is wrong with a note, by the document. -/
namespace Go.Proofs.Ytiladkinndgeaaa
open Go Go.RowKit Go.BigFrame Cp

set_option maxRecDepth 100000 in
set_option maxHeartbeats 4000000 in
theorem checkNote_any {F : Nat → Prop} {w : World} {cs : List Value} {n : No} (h : RNo F w cs n) :
    Calls Try.prog 9 #[.agg cs.toArray] w fun e w' => e = .returned (.int .i64 (checkN n)) ∧ Ext w w' := by
  obtain ⟨v, u, rfl, hi, hj, hl, hd⟩ := h
  obtain ⟨st, nb, l, q⟩ := n
  simp only at hi hj hl hd ⊢
  have HL := Lib.hid (fun (W : World) (hx : Ext w W) => hl.ext gInt hx)
  have HD := Lib.hid (fun (W : World) (hx : Ext w W) => hd.ext gDe hx)
  obtain ⟨al, nl, cl, rfl⟩ := hl.slice
  obtain ⟨rfl, _, _⟩ := hl.len
  obtain ⟨ad, nd, cd, rfl⟩ := hd.slice
  obtain ⟨rfl, hn1, hn2⟩ := hd.len
  unfold maxLen at hn2
  have q1 : q.length ≤ 9223372036854775807 := by omega
  clear hl hd hn1 hn2 hi hj
  cases g1 : inB st 0 4 with
  | false =>
    rw [checkN_site g1]
    go_enter Try.func9, Try.ntmps9
    go_wp2_with (first
      | (go_at_call 30; (with_reducible refine (between_any _ _ _ _).mono ?_); rintro e w' ⟨rfl, rfl⟩))
    go_ret
    exact ⟨rfl, extA⟩
  | true =>
  cases g2 : inB nb 1 500 with
  | false =>
    rw [checkN_number g2]
    go_enter Try.func9, Try.ntmps9
    go_wp2_with (first
      | (go_at_call 30; (with_reducible refine (between_any _ _ _ _).mono ?_); rintro e w' ⟨rfl, rfl⟩))
    go_ret
    exact ⟨rfl, extA⟩
  | true =>
  by_cases g3 : l.length = 5
  · have t3 : ((l.length : Int) != 5) = false := by rw [g3]; rfl
    have HG3 := Lib.hid g3
    obtain ⟨j, rfl, hj⟩ := site_nat g1
    obtain ⟨b1, b2⟩ := num_rng g2
    have hjl : j < l.length := by omega
    obtain ⟨bn, on, x, rfl, hbn, ex, ix, y0⟩ := int_at (HL.out w (ext_refl _)) hjl
    have HEX := Lib.hid (show l[(j : Int).toNat]?.getD 0 = x by simp [ex])
    have hn1 : ¬ bn = w.heap.size := by omega
    have hn2 : ¬ w.heap.size = bn := by omega
    clear g3 ex
    go_enter Try.func9, Try.ntmps9
    go_wp2_with (go_at_call 30; (with_reducible refine (between_any _ _ _ _).mono ?_); rintro e w' ⟨rfl, rfl⟩)
    go_loopw [3] (fun i wr => ∃ k : Nat, k ≤ 5 ∧ i = .int .i64 k ∧ Hid ((l.take k).any badI = false) ∧ Ext (w.alloc (.cells #[.int .i64 (j : Nat), .int .i64 nb, .slice (some ⟨bn, on, none⟩) l.length cl, .slice ad q.length cd] 25)) wr) (fun i _ => 5 - (intOf i).toNat)
    case atStart => exact ⟨0, by omega, rfl, Lib.hid (by simp), ext_refl _⟩
    case round =>
      obtain ⟨k, hk, rfl, HI, hx⟩ := hrel
      have z0 : wr.cell? ⟨w.heap.size, 0, none⟩ = some (.int .i64 (j : Nat)) := (hx.cells _ _ (by simp <;> omega)).trans (by go_simp)
      have z1 : wr.cell? ⟨w.heap.size, 1, none⟩ = some (.int .i64 nb) := (hx.cells _ _ (by simp <;> omega)).trans (by go_simp)
      have z2 : wr.cell? ⟨w.heap.size, 2, none⟩ = some (.slice (some ⟨bn, on, none⟩) l.length cl) := (hx.cells _ _ (by simp <;> omega)).trans (by go_simp)
      have z3 : wr.cell? ⟨w.heap.size, 3, none⟩ = some (.slice ad q.length cd) := (hx.cells _ _ (by simp <;> omega)).trans (by go_simp)
      have z4 : wr.cell? ⟨bn, on + j, none⟩ = some (.int .i64 x) := (hx.cells _ _ (by simp <;> omega)).trans (by go_simp)
      have hzr := hx.size
      (try simp at hzr)
      have hbr : w.heap.size < wr.heap.size := by omega
      have hbn2 : bn < wr.heap.size := by omega
      have HX := Lib.hid (ext_trans (ext_alloc (ext_refl _) _) hx)
      have HXR := Lib.hid hx
      clear hx
      by_cases hlt : k < 5
      · have hkl : k < l.length := by have := HG3.out; omega
        obtain ⟨bn', on', x1, ea, _, e1, _, ca⟩ := int_at (HL.out wr HX.out) (i := k) hkl
        obtain ⟨rfl, rfl⟩ : bn = bn' ∧ on = on' := by injection ea with ea; injection ea with ea1 ea2; exact ⟨ea1, ea2⟩
        clear ea
        have HA := Lib.hid (anyp_step (p := badI) e1)
        clear e1
        cases g4 : inB x1 0 500 with
        | true =>
          have HN := Lib.hid (show (l.take (k + 1)).any badI = false by rw [HA.out, HI.out]; unfold badI; rw [g4]; rfl)
          go_wp2_with (go_at_call 30; (with_reducible refine (between_any _ _ _ _).mono ?_); rintro e w' ⟨rfl, rfl⟩)
          go_roundw
          case rel => exact ⟨k + 1, by omega, by go_num, HN, HXR.out⟩
          case measure => simp [intOf]; omega
        | false =>
          have HC := Lib.hid (checkN_needs (n := ⟨(j : Nat), nb, l, q⟩) g1 g2 HG3.out (anyp_of_take (k := k + 1) (by rw [HA.out, HI.out]; unfold badI; rw [g4]; rfl)))
          go_wp2_with (go_at_call 30; (with_reducible refine (between_any _ _ _ _).mono ?_); rintro e w' ⟨rfl, rfl⟩)
          go_ret
          exact ⟨ri HC.out.symm, HX.out⟩
      · have hk5 : k = l.length := by have := HG3.out; omega
        have hi := HI.out
        rw [hk5, List.take_of_length_le (Nat.le_refl _)] at hi
        have HR := Lib.hid (checkN_rest (n := ⟨(j : Nat), nb, l, q⟩) g1 g2 HG3.out hi)
        simp only at HR
        clear hi hk5 HI
        go_wp2_with fail
        by_cases g5 : x = nb - 1
        · have t5 : (x != nb - 1) = false := by rw [g5]; simp
          have H5 := Lib.hid g5
          clear g5
          refine wp_name (fun W2 eW2 => ?_)
          have e0 : W2.cell? ⟨w.heap.size, 0, none⟩ = some (.int .i64 (j : Nat)) := by rw [eW2]; go_simp
          have e1 : W2.cell? ⟨w.heap.size, 1, none⟩ = some (.int .i64 nb) := by rw [eW2]; go_simp
          have e2 : W2.cell? ⟨w.heap.size, 2, none⟩ = some (.slice (some ⟨bn, on, none⟩) l.length cl) := by rw [eW2]; go_simp
          have e3 : W2.cell? ⟨w.heap.size, 3, none⟩ = some (.slice ad q.length cd) := by rw [eW2]; go_simp
          have e4 : W2.cell? ⟨bn, on + j, none⟩ = some (.int .i64 x) := by rw [eW2]; go_simp
          have zW2_0 : w.heap.size < W2.heap.size := by rw [eW2]; first | assumption | omega | (simp <;> omega)
          have zW2_1 : bn < W2.heap.size := by rw [eW2]; first | assumption | omega | (simp <;> omega)
          have hw2 : Ext w W2 := by rw [eW2]; exact (ext_trans HX.out extA)
          clear eW2
          refine wp_region_later fol (by kernel_rfl) (fun hlater => ?_)
          repeat (go_big_quiet_step ((fail)))
          refine wpQuiet_nil ?_
          rintro w3 ⟨⟨w3x, hx3⟩, rfl⟩
          clear hlater
          have fz0 := (hx3.cells (w.heap.size) (0) (by omega)).trans e0
          have fz1 := (hx3.cells (w.heap.size) (1) (by omega)).trans e1
          have fz2 := (hx3.cells (w.heap.size) (2) (by omega)).trans e2
          have fz3 := (hx3.cells (w.heap.size) (3) (by omega)).trans e3
          have hz3 := hx3.size
          have hb3 : w.heap.size < w3.heap.size := by omega
          have hw3 : Ext w w3 := ext_trans hw2 hx3
          clear hx3 hw2 e0 e1 e2 e3 e4
          by_cases g6 : q.length = 0
          · have t6 : ((q.length : Int) == 0) = true := by rw [beq_iff_eq]; omega
            go_wp2_with fail
            go_ret
            exact ⟨ri (by rw [HR.out, if_neg (by rw [HEX.out, H5.out]; simp), if_pos g6]), hw3⟩
          have t6 : ((q.length : Int) == 0) = false := by rw [beq_eq_false_iff_ne]; omega
          by_cases g7 : 20 < q.length
          · go_wp2_with fail
            go_ret
            exact ⟨ri (by rw [HR.out, if_neg (by rw [HEX.out, H5.out]; simp), if_neg g6, if_pos g7]), hw3⟩
          have HI0 := Lib.hid (show checkN ⟨(j : Nat), nb, l, q⟩ = checkDL (q.drop 0) by rw [HR.out, if_neg (by rw [HEX.out, H5.out]; simp), if_neg g6, if_neg g7]; rfl)
          clear HR HEX H5 g6
          have HW3 := Lib.hid hw3
          clear hw3
          go_wp2_with fail
          go_loopw [4] (fun i wr => ∃ k : Nat, k ≤ q.length ∧ i = .int .i64 k ∧ Hid (checkN ⟨(j : Nat), nb, l, q⟩ = checkDL (q.drop k)) ∧ Ext w3 wr) (fun i _ => q.length - (intOf i).toNat)
          case atStart => exact ⟨0, Nat.zero_le _, rfl, HI0, ext_refl _⟩
          case round =>
            obtain ⟨k, hk, rfl, HI, hx⟩ := hrel
            have z0 := (hx.cells w.heap.size 0 hb3).trans fz0
            have z1 := (hx.cells w.heap.size 1 hb3).trans fz1
            have z2 := (hx.cells w.heap.size 2 hb3).trans fz2
            have z3 := (hx.cells w.heap.size 3 hb3).trans fz3
            have hzr := hx.size
            have hbr : w.heap.size < wr.heap.size := by omega
            have HX := Lib.hid (ext_trans HW3.out hx)
            have HXQ := Lib.hid hx
            clear hx
            by_cases hlt : k < q.length
            · obtain ⟨b, o, d, a1, n1, c1, a2, n2, c2, s, rfl, hb, ek, hdd, y0, y1, y2, y3, y4, y5, y6⟩ := deed_at (HD.out wr HX.out) hlt
              have HC := Lib.hid (fun (W : World) (hx : Ext wr W) => checkDeed_any (gDe.ext hdd hx))
              have hn3 : ¬ b = wr.heap.size := by omega
              have hn4 : ¬ wr.heap.size = b := by omega
              clear hdd
              by_cases g8 : checkD d = 0
              · have HN := Lib.hid (HI.out.trans (checkDL_next ek g8))
                rw [g8] at HC
                clear g8 ek
                go_wp2_with (go_at_call 31; go_must ((with_reducible refine (HC.out _ extA).mono ?_); rintro e w4 ⟨rfl, hx4⟩; have hz4 := hx4.size; (try simp at hz4); have hb4_0 : w.heap.size < w4.heap.size := (by omega); have v0 := (hx4.cells (w.heap.size) (3) (by first | omega | (simp <;> omega))).trans (show _ = some (.slice (some ⟨b, o, none⟩) q.length cd) by first | (with_reducible assumption) | go_simp)))
                go_roundw
                case rel => exact ⟨k + 1, by omega, by go_num, HN, ext_trans HXQ.out extA⟩
                case measure => simp [intOf]; omega
              · have HN := Lib.hid (HI.out.trans (checkDL_bad ek g8))
                have t8 : (checkD d != 0) = true := by simpa using g8
                generalize checkD d = cd' at *
                clear g8 ek
                go_wp2_with (go_at_call 31; go_must ((with_reducible refine (HC.out _ extA).mono ?_); rintro e w4 ⟨rfl, hx4⟩; have hz4 := hx4.size; (try simp at hz4); have hb4_0 : w.heap.size < w4.heap.size := (by omega); have v0 := (hx4.cells (w.heap.size) (3) (by first | omega | (simp <;> omega))).trans (show _ = some (.slice (some ⟨b, o, none⟩) q.length cd) by first | (with_reducible assumption) | go_simp)))
                go_ret
                exact ⟨ri HN.out.symm, ext_trans HX.out extA⟩
            · go_wp2_with fail
              go_ret
              exact ⟨ri (by rw [HI.out, checkDL_end (by omega)]), HX.out⟩
        · have t5 : (x != nb - 1) = true := by simpa using g5
          refine wp_name (fun W2 eW2 => ?_)
          have e0 : W2.cell? ⟨w.heap.size, 0, none⟩ = some (.int .i64 (j : Nat)) := by rw [eW2]; go_simp
          have e1 : W2.cell? ⟨w.heap.size, 1, none⟩ = some (.int .i64 nb) := by rw [eW2]; go_simp
          have e2 : W2.cell? ⟨w.heap.size, 2, none⟩ = some (.slice (some ⟨bn, on, none⟩) l.length cl) := by rw [eW2]; go_simp
          have e3 : W2.cell? ⟨w.heap.size, 3, none⟩ = some (.slice ad q.length cd) := by rw [eW2]; go_simp
          have e4 : W2.cell? ⟨bn, on + j, none⟩ = some (.int .i64 x) := by rw [eW2]; go_simp
          have zW2_0 : w.heap.size < W2.heap.size := by rw [eW2]; first | assumption | omega | (simp <;> omega)
          have zW2_1 : bn < W2.heap.size := by rw [eW2]; first | assumption | omega | (simp <;> omega)
          have hw2 : Ext w W2 := by rw [eW2]; exact (ext_trans HX.out extA)
          clear eW2
          refine wp_region_later fol (by kernel_rfl) (fun hlater => ?_)
          repeat (go_big_quiet_step ((fail)))
          refine wpQuiet_nil ?_
          rintro w3 ⟨⟨w3x, hx3⟩, rfl⟩
          clear hlater
          go_wp2_with fail
          go_ret
          exact ⟨ri (by rw [HR.out, if_pos (by rw [HEX.out]; exact g5)]), ext_trans hw2 hx3⟩
  · rw [checkN_len g1 g2 g3]
    have t3 : ((l.length : Int) != 5) = true := by rw [bne_iff_ne]; omega
    clear g3
    go_enter Try.func9, Try.ntmps9
    go_wp2_with (first
      | (go_at_call 30; (with_reducible refine (between_any _ _ _ _).mono ?_); rintro e w' ⟨rfl, rfl⟩))
    go_ret
    exact ⟨rfl, extA⟩
end Go.Proofs.Ytiladkinndgeaaa
/- What was seen: what is wrong with it; is one as much; both joined. -/
namespace Go.Proofs.Ytiladkinndgeaaa
open Go Go.RowKit Go.BigFrame Cp

def checkI (l : List Int) : Int := if l.length ≠ 5 then 1 else if l.any badI = true then 3 else 0
def bothI (l m : List Int) : Int := if checkI l ≠ 0 then checkI l else checkI m
def atI (l : List Int) (i : Nat) : Int := l[i]?.getD 0
/-- the greater one -/
def maxI (a b : Int) : Int := if a < b then b else a
def joinI (l m : List Int) : List Int := rowL (fun i => maxI (atI l i) (atI m i)) 5
def leastI (l m : List Int) : Bool := (List.range 5).all fun i => decide (atI m i ≤ atI l i)
theorem checkI_len {l : List Int} (h : l.length ≠ 5) : checkI l = 1 := by unfold checkI; rw [if_pos h]
theorem checkI_bad {l : List Int} (h : l.length = 5) (h2 : l.any badI = true) : checkI l = 3 := by unfold checkI; rw [if_neg (by simpa using h), if_pos h2]
theorem checkI_ok {l : List Int} (h : l.length = 5) (h2 : l.any badI = false) : checkI l = 0 := by unfold checkI; rw [if_neg (by simpa using h), if_neg (by rw [h2]; simp)]
theorem checkI_five {l : List Int} (h : checkI l = 0) : l.length = 5 ∧ l.any badI = false := by
  unfold checkI at h
  by_cases h1 : l.length ≠ 5
  · rw [if_pos h1] at h; omega
  · rw [if_neg h1] at h
    refine ⟨by omega, ?_⟩
    cases g : l.any badI with
    | false => rfl
    | true => rw [g] at h; simp at h
theorem bothI_ok {l m : List Int} (h : bothI l m = 0) : checkI l = 0 ∧ checkI m = 0 := by
  unfold bothI at h
  by_cases h1 : checkI l ≠ 0
  · rw [if_pos h1] at h; exact absurd h h1
  · rw [if_neg h1] at h; exact ⟨by omega, h⟩
theorem atI_of {l : List Int} {i : Nat} {x : Int} (h : l[i]? = some x) : x = atI l i := by unfold atI; rw [h]; rfl
theorem row_ofI {l : List Int} {n : Nat} (h : l.length = n) : l = rowL (atI l) n := by
  apply List.ext_getElem?
  intro i
  by_cases hi : i < n
  · rw [rowL_get hi]
    unfold atI
    rw [List.getElem?_eq_getElem (by omega)]; rfl
  · rw [List.getElem?_eq_none (by omega), List.getElem?_eq_none (by rw [rowL_len]; omega)]
theorem all_step {p : Nat → Bool} {k : Nat} : (List.range (k + 1)).all p = ((List.range k).all p && p k) := by rw [List.range_succ, List.all_append]; simp
theorem all_not {p : Nat → Bool} {k n : Nat} (hk : k < n) (h : p k = false) : (List.range n).all p = false := by
  rw [List.all_eq_false]
  exact ⟨k, List.mem_range.2 hk, by rw [h]; simp⟩

end Go.Proofs.Ytiladkinndgeaaa
/- What was seen: both joined; the same numbers; may a note be done. -/
namespace Go.Proofs.Ytiladkinndgeaaa
open Go Go.RowKit Go.BigFrame Cp

/-- numbers, all in new memory -/
def IsInts (l : List Int) (w : World) (e : Ending) (w' : World) : Prop := ∃ v, e = .returned v ∧ OSl RInt 1 3 w.heap.size (fun _ => True) w' v l ∧ Ext w w'
def IsIntsE (l : List Int) (er : Int) (w : World) (e : Ending) (w' : World) : Prop := ∃ v, e = .returned (.tuple #[v, .int .i64 er]) ∧ RSl RInt 1 (fun k => w.heap.size ≤ k) w' v l ∧ Ext w w'
def IsIntsR (l : List Int) (w : World) (e : Ending) (w' : World) : Prop := ∃ v, e = .returned v ∧ RSl RInt 1 (fun k => w.heap.size ≤ k) w' v l ∧ Ext w w'
theorem osl_ints {base : Nat} {F : Nat → Prop} {w : World} {v : Value} {l : List Int} (h : OSl RInt 1 3 base F w v l) : RSl RInt 1 (fun k => base ≤ k) w v l :=
  osl_rsl gInt (osl_any leaf_int (G := fun k => base ≤ k) h) (fun k hk _ => hk) (fun k hk => hk)
theorem joinI_i64 {l m : List Int} {i : Nat} (h : ∀ x ∈ l, I64 x) (k : ∀ x ∈ m, I64 x) : I64 (maxI (atI l i) (atI m i)) := by
  have h0 : I64 (0 : Int) := by unfold I64; omega
  have h1 : I64 (atI l i) := by
    unfold atI
    cases e : l[i]? with
    | none => exact h0
    | some x => exact h x (List.mem_of_getElem? e)
  have h2 : I64 (atI m i) := by
    unfold atI
    cases e : m[i]? with
    | none => exact h0
    | some x => exact k x (List.mem_of_getElem? e)
  unfold maxI
  split
  · exact h2
  · exact h1
theorem ints_i64 {F : Nat → Prop} {w : World} {v : Value} {l : List Int} (h : RSl RInt 1 F w v l) : ∀ x ∈ l, I64 x := by
  intro x hx
  obtain ⟨a, n, c, rfl⟩ := h.slice
  obtain ⟨rfl, _, _⟩ := h.len
  obtain ⟨i, hi, e⟩ := List.mem_iff_getElem.1 hx
  obtain ⟨_, _, y, _, _, e1, i1, _⟩ := int_at h hi
  rw [List.getElem?_eq_getElem hi, e] at e1
  have : x = y := by simpa using e1
  subst this; exact i1

set_option maxRecDepth 100000 in
set_option maxHeartbeats 4000000 in
theorem cloneInts_any {F : Nat → Prop} {w : World} {v : Value} {l : List Int} (h : RSl RInt 1 F w v l) (hsz : l.length ≤ 8000000000000) :
    Calls Try.prog 77 #[v] w (IsInts l w) := by
  obtain ⟨a1, n1, c1, rfl⟩ := h.slice
  obtain ⟨rfl, k1, k1'⟩ := h.len
  have hnil := fun (W : World) (a : Option Addr) (n c : Nat) => Lib.run_eql_slice_nil (P := Try.prog) W 22 3 a n c 0 0 Try.underlying22
  obtain ⟨i0, hi, hz0, hz1, hz2⟩ := info_parts info_int
  cases a1 with
  | none =>
    have e0 : l = [] := by
      cases l with
      | nil => rfl
      | cons a r => obtain ⟨b, o, x, cs, e, _⟩ := h.at_ (i := 0) (by simp); cases e
    subst e0
    go_enter Try.func77, Try.ntmps77
    go_wp2_with fail
    all_goals go_ret
    all_goals exact ⟨_, rfl, osl_nil, ext_refl _⟩
  | some ad =>
    have H := Lib.hid (h.more gInt (G := fun k => k < w.heap.size) (fun _ _ hk => hk))
    clear h k1 k1'
    go_enter Try.func77, Try.ntmps77
    go_wp2_with (at_builtin; refine wpList_appAll gInt rfl (.tmp 5) (.tmp 6) 22 rfl w.heap.size 3 i0 _ 1 8 Try.underlying22 hi hz0 hz1 hz2 rfl (by omega) (F := fun k => k < w.heap.size) (G := fun k => k < w.heap.size) _ [] rfl osl_new _ l rfl (H.out.ext gInt (ext_alloc (ext_refl _) _)) one_int (fun k hk _ => ⟨hk, ne_own hk⟩) (by simp only [maxLen, List.length_nil]; omega) (by simp only [List.length_nil]; omega) (by simp) ?_; intro v1 w1 hown1 hg1 hat1)
    go_ret
    exact ⟨_, rfl, osl_any leaf_int hown1, ext_grow (ext_alloc (ext_refl _) _) hg1 (fun k hk => Nat.le_of_eq (own_eq hk))⟩

set_option maxRecDepth 100000 in
set_option maxHeartbeats 4000000 in
theorem sameInts_any {F G : Nat → Prop} {w : World} {v u : Value} {l m : List Int} (h : RSl RInt 1 F w v l) (k : RSl RInt 1 G w u m) :
    Calls Try.prog 44 #[v, u] w fun e w' => e = .returned (.bool (decide (l = m))) ∧ Ext w w' := by
  have HL := Lib.hid (fun (W : World) (hx : Ext w W) => h.ext gInt hx)
  have HM := Lib.hid (fun (W : World) (hx : Ext w W) => k.ext gInt hx)
  obtain ⟨a, n, c, rfl⟩ := h.slice
  obtain ⟨a2, n2, c2, rfl⟩ := k.slice
  obtain ⟨rfl, hn1, hn2⟩ := h.len
  obtain ⟨rfl, hn3, hn4⟩ := k.len
  unfold maxLen at hn2 hn4
  have q1 : l.length ≤ 9223372036854775807 := by omega
  have q2 : m.length ≤ 9223372036854775807 := by omega
  clear h k hn1 hn2 hn3 hn4
  by_cases h0 : l.length = m.length
  · have t0 : ((l.length : Int) != (m.length : Int)) = false := by rw [h0]; simp
    have H0 := Lib.hid h0
    clear h0
    go_enter Try.func44, Try.ntmps44
    go_wp2
    go_loopw [5] (fun i wr => ∃ q : Nat, q ≤ l.length ∧ i = .int .i64 q ∧ Hid (l.take q = m.take q) ∧ Ext w wr) (fun i _ => l.length - (intOf i).toNat)
    case atStart => exact ⟨0, Nat.zero_le _, rfl, Lib.hid (by simp), ext_refl _⟩
    case round =>
      obtain ⟨q, hq, rfl, HI, hx⟩ := hrel
      have HX := Lib.hid hx
      clear hx
      by_cases hlt : q < l.length
      · have hlm : q < m.length := by have := H0.out; omega
        obtain ⟨b, o, x, rfl, hb, e1, _, ca⟩ := int_at (HL.out wr HX.out) hlt
        obtain ⟨b2, o2, y, rfl, hb2, e2, _, ca2⟩ := int_at (HM.out wr HX.out) hlm
        by_cases g : x = y
        · have t1 : (x != y) = false := by rw [g]; simp
          have HN := Lib.hid (show l.take (q + 1) = m.take (q + 1) by
            rw [List.take_succ_eq_append_getElem hlt, List.take_succ_eq_append_getElem hlm, HI.out]
            rw [List.getElem?_eq_getElem hlt] at e1
            rw [List.getElem?_eq_getElem hlm] at e2
            rw [Option.some.inj e1, Option.some.inj e2, g])
          clear e1 e2 g
          go_wp2_with fail
          refine wp_name (fun W2 eW2 => ?_)
          have e0 : W2.cell? ⟨b, o + q, none⟩ = some (.int .i64 x) := by rw [eW2]; go_simp
          have e1 : W2.cell? ⟨b2, o2 + q, none⟩ = some (.int .i64 y) := by rw [eW2]; go_simp
          have zW2_0 : b < W2.heap.size := by rw [eW2]; first | assumption | omega | (simp <;> omega)
          have zW2_1 : b2 < W2.heap.size := by rw [eW2]; first | assumption | omega | (simp <;> omega)
          have hw2 : Ext wr W2 := by rw [eW2]; exact extA
          clear eW2
          refine wp_region_later fol (by kernel_rfl) (fun hlater => ?_)
          repeat (go_big_quiet_step ((fail)))
          refine wpQuiet_nil ?_
          rintro w3 ⟨⟨w3x, hx3⟩, rfl⟩
          clear hlater
          go_wp2_with fail
          go_roundw
          case rel => exact ⟨q + 1, by omega, by go_num, HN, ext_trans HX.out (ext_trans hw2 hx3)⟩
          case measure => simp [intOf]; omega
        · have t1 : (x != y) = true := by simpa using g
          have HC := Lib.hid (show decide (l = m) = false from decide_eq_false (fun e => by
            subst e
            rw [e1] at e2
            exact g (Option.some.inj e2)))
          clear e1 e2 g
          go_wp2_with fail
          refine wp_name (fun W2 eW2 => ?_)
          have e0 : W2.cell? ⟨b, o + q, none⟩ = some (.int .i64 x) := by rw [eW2]; go_simp
          have e1 : W2.cell? ⟨b2, o2 + q, none⟩ = some (.int .i64 y) := by rw [eW2]; go_simp
          have zW2_0 : b < W2.heap.size := by rw [eW2]; first | assumption | omega | (simp <;> omega)
          have zW2_1 : b2 < W2.heap.size := by rw [eW2]; first | assumption | omega | (simp <;> omega)
          have hw2 : Ext wr W2 := by rw [eW2]; exact extA
          clear eW2
          refine wp_region_later fol (by kernel_rfl) (fun hlater => ?_)
          repeat (go_big_quiet_step ((fail)))
          refine wpQuiet_nil ?_
          rintro w3 ⟨⟨w3x, hx3⟩, rfl⟩
          clear hlater
          go_wp2_with fail
          go_ret
          exact ⟨rb HC.out.symm, ext_trans HX.out (ext_trans hw2 hx3)⟩
      · have HC := Lib.hid (show decide (l = m) = true from decide_eq_true (by
          have h1 := HI.out
          rw [List.take_of_length_le (by omega), List.take_of_length_le (by have := H0.out; omega)] at h1
          exact h1))
        go_wp2
        go_ret
        exact ⟨rb HC.out.symm, HX.out⟩
  · have t0 : ((l.length : Int) != (m.length : Int)) = true := by rw [bne_iff_ne]; omega
    have HC := Lib.hid (show decide (l = m) = false from decide_eq_false (fun e => h0 (by rw [e])))
    clear h0
    go_enter Try.func44, Try.ntmps44
    go_wp2
    go_ret
    exact ⟨rb HC.out.symm, ext_refl _⟩

def readyB (l : List Int) (n : No) : Bool := leastI l n.needs && (atI l n.site.toNat == n.number - 1)
theorem checkN_parts {n : No} (h : checkN n = 0) : inB n.site 0 4 = true ∧ inB n.number 1 500 = true ∧ n.needs.length = 5 := by
  cases g1 : inB n.site 0 4 with
  | false => rw [checkN_site g1] at h; omega
  | true =>
    cases g2 : inB n.number 1 500 with
    | false => rw [checkN_number g2] at h; omega
    | true =>
      refine ⟨rfl, rfl, ?_⟩
      by_cases g3 : n.needs.length = 5
      · exact g3
      · rw [checkN_len g1 g2 g3] at h; omega
theorem readyB_no {l : List Int} {n : No} (h : leastI l n.needs = false) : readyB l n = false := by unfold readyB; rw [h]; rfl
theorem readyB_yes {l : List Int} {n : No} (h : leastI l n.needs = true) : readyB l n = (atI l n.site.toNat == n.number - 1) := by unfold readyB; rw [h]; rfl
end Go.Proofs.Ytiladkinndgeaaa
/- Relays, plain. -/
namespace Go.Proofs.Ytiladkinndgeaaa
open Go Cp

def howN (l : List No) (site : Int) : Nat := l.countP fun n => decide (n.site = site)
theorem howN_snoc (l : List No) (n : No) (site : Int) : howN (l ++ [n]) site = howN l site + if n.site = site then 1 else 0 := by
  unfold howN
  rw [List.countP_append, List.countP_singleton]
  simp
theorem howN_len (l : List No) (site : Int) : howN l site ≤ l.length := List.countP_le_length
theorem howN_take {l : List No} {k : Nat} {n : No} (h : l[k]? = some n) (site : Int) : howN (l.take (k + 1)) site = howN (l.take k) site + if n.site = site then 1 else 0 := by
  obtain ⟨h1, h2⟩ := List.getElem?_eq_some_iff.1 h
  rw [List.take_succ_eq_append_getElem h1, h2, howN_snoc]
/-- what is wrong with what comes behind notes that are right -/
def checkLF : List No → List No → Int
  | _, [] => 0
  | pre, n :: r => if checkN n ≠ 0 then checkN n else if n.number ≠ (howN pre n.site : Int) + 1 then 4 else checkLF (pre ++ [n]) r
def checkLog (l : List No) : Int := if 300 < l.length then 2 else checkLF [] l
theorem checkLF_step {l : List No} {k : Nat} {n : No} (h : l[k]? = some n) : checkLF (l.take k) (l.drop k) =
    if checkN n ≠ 0 then checkN n else if n.number ≠ (howN (l.take k) n.site : Int) + 1 then 4 else checkLF (l.take (k + 1)) (l.drop (k + 1)) := by
  obtain ⟨h1, h2⟩ := List.getElem?_eq_some_iff.1 h
  have e : l.drop k = n :: l.drop (k + 1) := by rw [← h2]; exact List.drop_eq_getElem_cons h1
  have e2 : l.take (k + 1) = l.take k ++ [n] := by rw [List.take_succ_eq_append_getElem h1, h2]
  rw [e, e2]
  rfl
theorem checkLF_end (l : List No) : checkLF (l.take l.length) (l.drop l.length) = 0 := by rw [List.drop_length]; rfl
theorem checkLF_ok : ∀ {m l : List No}, checkLF l m = 0 ↔ ∀ (i : Nat) (n : No), m[i]? = some n → checkN n = 0 ∧ n.number = (howN (l ++ m.take i) n.site : Int) + 1
  | [], l => ⟨fun _ i n h => by simp at h, fun _ => rfl⟩
  | x :: m, l => by
    have ih := checkLF_ok (m := m) (l := l ++ [x])
    show (if checkN x ≠ 0 then checkN x else if x.number ≠ (howN l x.site : Int) + 1 then 4 else checkLF (l ++ [x]) m) = 0 ↔ _
    constructor
    · intro h i n hi
      by_cases h1 : checkN x = 0
      · rw [if_neg (by simpa using h1)] at h
        by_cases h2 : x.number = (howN l x.site : Int) + 1
        · rw [if_neg (by simpa using h2)] at h
          cases i with
          | zero =>
            obtain rfl : x = n := by simpa using hi
            exact ⟨h1, by simpa using h2⟩
          | succ i =>
            have := ih.1 h i n (by simpa using hi)
            rw [List.take_succ_cons]
            rwa [List.append_assoc] at this
        · rw [if_pos h2] at h; cases h
      · rw [if_pos h1] at h; exact absurd h h1
    · intro h
      obtain ⟨h1, h2⟩ := h 0 x rfl
      rw [if_neg (by simpa using h1), if_neg (by simpa using h2)]
      refine ih.2 fun i n hi => ?_
      have := h (i + 1) n (by simpa using hi)
      rw [List.take_succ_cons] at this
      rwa [List.append_assoc]
theorem checkLog_ok {l : List No} : checkLog l = 0 ↔ l.length ≤ 300 ∧ ∀ (i : Nat) (n : No), l[i]? = some n → checkN n = 0 ∧ n.number = (howN (l.take i) n.site : Int) + 1 := by
  unfold checkLog
  by_cases h : 300 < l.length
  · rw [if_pos h]
    exact ⟨fun e => (by cases e), fun e => (by omega)⟩
  · rw [if_neg h, checkLF_ok]
    simp only [List.nil_append]
    exact ⟨fun e => ⟨by omega, e⟩, fun e => e.2⟩
theorem checkLog_nil : checkLog [] = 0 := rfl
/-- a note that is posted -/
def postE (l : List No) (n : No) : Int :=
  if checkLog l ≠ 0 then checkLog l else if checkN n ≠ 0 then checkN n else if (howN l n.site : Int) + 1 < n.number then 4
  else if n.number = (howN l n.site : Int) + 1 ∧ l.length = 300 then 2 else 0
def postB (l : List No) (n : No) : Bool := decide (postE l n = 0) && decide (n.number = (howN l n.site : Int) + 1)
def postV (l : List No) (n : No) : List No := if postE l n = 0 then (if n.number = (howN l n.site : Int) + 1 then l ++ [n] else l) else []
theorem post_right {l : List No} {n : No} (h : postE l n = 0) : checkLog l = 0 ∧ checkN n = 0 ∧ checkLog (postV l n) = 0 ∧ (postB l n = true → postV l n = l ++ [n]) ∧ (postB l n = false → postV l n = l) := by
  have h0 := h
  unfold postE at h0
  by_cases h1 : checkLog l = 0
  · rw [if_neg (by simpa using h1)] at h0
    by_cases h2 : checkN n = 0
    · rw [if_neg (by simpa using h2)] at h0
      by_cases h3 : (howN l n.site : Int) + 1 < n.number
      · rw [if_pos h3] at h0; cases h0
      · rw [if_neg h3] at h0
        by_cases h4 : n.number = (howN l n.site : Int) + 1 ∧ l.length = 300
        · rw [if_pos h4] at h0; cases h0
        · refine ⟨h1, h2, ?_, ?_, ?_⟩
          · unfold postV
            rw [if_pos h]
            split
            · rename_i h5
              obtain ⟨g1, g2⟩ := checkLog_ok.1 h1
              refine checkLog_ok.2 ⟨?_, ?_⟩
              · rw [List.length_append]
                have : ¬ l.length = 300 := fun e => h4 ⟨h5, e⟩
                simp
                omega
              · intro i x hi
                by_cases hlt : i < l.length
                · rw [List.getElem?_append_left hlt] at hi
                  have := g2 i x hi
                  rwa [List.take_append_of_le_length (by omega)]
                · have hil : i = l.length := by
                    have := (List.getElem?_eq_some_iff.1 hi).1
                    rw [List.length_append] at this
                    simp at this
                    omega
                  subst hil
                  rw [List.getElem?_append_right (Nat.le_refl _)] at hi
                  obtain rfl : n = x := by simpa using hi
                  rw [List.take_left]
                  exact ⟨h2, h5⟩
            · exact h1
          · intro hb
            unfold postB at hb
            rw [Bool.and_eq_true] at hb
            unfold postV
            rw [if_pos h, if_pos (of_decide_eq_true hb.2)]
          · intro hb
            unfold postB at hb
            rw [decide_eq_true h] at hb
            have : ¬ n.number = (howN l n.site : Int) + 1 := by simpa using hb
            unfold postV
            rw [if_pos h, if_neg this]
    · rw [if_pos h2] at h0; exact absurd h0 h2
  · rw [if_pos h1] at h0; exact absurd h0 h1
theorem post_err {l : List No} {n : No} (h : ¬ postE l n = 0) : postV l n = [] ∧ postB l n = false := by
  unfold postV postB
  rw [if_neg h, decide_eq_false h]
  exact ⟨rfl, rfl⟩
/-- notes that are pulled -/
def pullE (l : List No) (c m : Int) : Int := if checkLog l ≠ 0 then checkLog l else if inB c 0 l.length = false ∨ inB m 0 300 = false then 3 else 0
def pullV (l : List No) (c m : Int) : List No := if pullE l c m = 0 then (l.drop c.toNat).take m.toNat else []
theorem pull_right {l : List No} {c m : Int} (h : pullE l c m = 0) : checkLog l = 0 ∧ 0 ≤ c ∧ c ≤ l.length ∧ 0 ≤ m ∧ m ≤ 300 := by
  unfold pullE at h
  by_cases h1 : checkLog l = 0
  · rw [if_neg (by simpa using h1)] at h
    by_cases h2 : inB c 0 l.length = false ∨ inB m 0 300 = false
    · rw [if_pos h2] at h; cases h
    · rw [not_or] at h2
      obtain ⟨h2, h3⟩ := h2
      have h4 := (Bool.not_eq_false _).mp h2
      have h5 := (Bool.not_eq_false _).mp h3
      unfold inB at h4 h5
      simp at h4 h5
      exact ⟨h1, h4.1, h4.2, h5.1, h5.2⟩
  · rw [if_pos h1] at h; exact absurd h h1
end Go.Proofs.Ytiladkinndgeaaa
