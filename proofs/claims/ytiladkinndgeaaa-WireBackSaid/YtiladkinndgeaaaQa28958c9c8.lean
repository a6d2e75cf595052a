/- What is wrong with a deed, by the document. -/
import Derived.Test.YtiladkinndgeaaaQ93f6ba8a8c
import Derived.Test.YtiladkinndgeaaaQace5a0f2d6
set_option linter.unusedVariables false
set_option linter.unusedSimpArgs false
namespace Go.Proofs.Ytiladkinndgeaaa
open Go Go.RowKit Go.BigFrame Cp

set_option maxRecDepth 100000 in
set_option maxHeartbeats 4000000 in
theorem checkDeed_any {F : Nat → Prop} {w : World} {cs : List Value} {d : De} (h : RDe F w cs d) :
    Calls Try.prog 31 #[.agg cs.toArray] w fun e w' => e = .returned (.int .i64 (checkD d)) ∧ Ext w w' := by
  obtain ⟨v, u, x, rfl, hk, hl, hi, hu, hm, hj, hn⟩ := h
  obtain ⟨kd, ⟨⟨l, c⟩, t⟩, ⟨m, e⟩, mn⟩ := d
  simp only at hk hl hi hu hm hj hn ⊢
  obtain ⟨s, rfl, rfl, hs⟩ := tx_bytes hu
  have HR := Lib.hid (fun (W : World) (hx : Ext w W) => checkRun_any (rrn_of (hl.ext gStp hx) hi hu))
  have HK := Lib.hid (fun (W : World) (hx : Ext w W) => checkMark_any (rmk_of' (hm.ext gStp hx) hj))
  have HN1 := Lib.hid (fun (W : World) (hx : Ext w W) => none_any (rmk_of' (hl.ext gStp hx) hi))
  have HN2 := Lib.hid (fun (W : World) (hx : Ext w W) => none_any (rmk_of' (hm.ext gStp hx) hj))
  have HX := Lib.hid (fun (W : World) (hx : Ext w W) => nextOf_any (k := mn - 1) (rmk_of' (hm.ext gStp hx) hj))
  obtain ⟨a1, n1, c1, rfl⟩ := hl.slice
  obtain ⟨a2, n2, c2, rfl⟩ := hm.slice
  obtain ⟨hn1, hn2⟩ := hn
  clear hl hi hu hm hj hk
  by_cases k1 : kd = 1
  · subst k1
    by_cases h0 : checkR ((l, c), s.data.toList) = 0
    · have H0 := Lib.hid h0
      rw [h0] at HR
      clear h0
      cases g : noneM (m, e) with
      | false =>
        rw [checkD_put_form rfl H0.out (.inl g)]
        rw [g] at HN2
        clear HN1 HK
        go_enter Try.func31, Try.ntmps31
        go_wp2_with (first
          | (go_at_call 52; (with_reducible refine (HR.out _ extA).mono ?_); rintro e' w1 ⟨rfl, hx1⟩; have hz1 := hx1.size; (try simp at hz1); have hb1_0 : w.heap.size < w1.heap.size := (by omega); have p0 := (hx1.cells (w.heap.size) (0) (by first | omega | (simp <;> omega))).trans (show _ = some (.int .i64 1) by first | (with_reducible assumption) | go_simp); have p1 := (hx1.cells (w.heap.size) (1) (by first | omega | (simp <;> omega))).trans (show _ = some (.slice a1 n1 c1) by first | (with_reducible assumption) | go_simp); have p2 := (hx1.cells (w.heap.size) (2) (by first | omega | (simp <;> omega))).trans (show _ = some (.int .i64 c) by first | (with_reducible assumption) | go_simp); have p3 := (hx1.cells (w.heap.size) (3) (by first | omega | (simp <;> omega))).trans (show _ = some (.string s) by first | (with_reducible assumption) | go_simp); have p4 := (hx1.cells (w.heap.size) (4) (by first | omega | (simp <;> omega))).trans (show _ = some (.slice a2 n2 c2) by first | (with_reducible assumption) | go_simp); have p5 := (hx1.cells (w.heap.size) (5) (by first | omega | (simp <;> omega))).trans (show _ = some (.int .i64 e) by first | (with_reducible assumption) | go_simp); have p6 := (hx1.cells (w.heap.size) (6) (by first | omega | (simp <;> omega))).trans (show _ = some (.int .i64 mn) by first | (with_reducible assumption) | go_simp))
          | (go_at_call 54; (with_reducible refine (HK.out _ extA).mono ?_); rintro e' w2 ⟨rfl, hx2⟩; have hz2 := hx2.size; (try simp at hz2); have hb2_0 : w.heap.size < w2.heap.size := (by omega); have q0 := (hx2.cells (w.heap.size) (0) (by first | omega | (simp <;> omega))).trans (show _ = some (.int .i64 1) by first | (with_reducible assumption) | go_simp); have q1 := (hx2.cells (w.heap.size) (1) (by first | omega | (simp <;> omega))).trans (show _ = some (.slice a1 n1 c1) by first | (with_reducible assumption) | go_simp); have q2 := (hx2.cells (w.heap.size) (2) (by first | omega | (simp <;> omega))).trans (show _ = some (.int .i64 c) by first | (with_reducible assumption) | go_simp); have q3 := (hx2.cells (w.heap.size) (3) (by first | omega | (simp <;> omega))).trans (show _ = some (.string s) by first | (with_reducible assumption) | go_simp); have q4 := (hx2.cells (w.heap.size) (4) (by first | omega | (simp <;> omega))).trans (show _ = some (.slice a2 n2 c2) by first | (with_reducible assumption) | go_simp); have q5 := (hx2.cells (w.heap.size) (5) (by first | omega | (simp <;> omega))).trans (show _ = some (.int .i64 e) by first | (with_reducible assumption) | go_simp); have q6 := (hx2.cells (w.heap.size) (6) (by first | omega | (simp <;> omega))).trans (show _ = some (.int .i64 mn) by first | (with_reducible assumption) | go_simp))
          | (go_at_call 53; (with_reducible refine (HN2.out _ extA).mono ?_); rintro e' w4 ⟨rfl, hx4⟩; have hz4 := hx4.size; (try simp at hz4); have hb4_0 : w.heap.size < w4.heap.size := (by omega); have s0 := (hx4.cells (w.heap.size) (0) (by first | omega | (simp <;> omega))).trans (show _ = some (.int .i64 1) by first | (with_reducible assumption) | go_simp); have s1 := (hx4.cells (w.heap.size) (1) (by first | omega | (simp <;> omega))).trans (show _ = some (.slice a1 n1 c1) by first | (with_reducible assumption) | go_simp); have s2 := (hx4.cells (w.heap.size) (2) (by first | omega | (simp <;> omega))).trans (show _ = some (.int .i64 c) by first | (with_reducible assumption) | go_simp); have s3 := (hx4.cells (w.heap.size) (3) (by first | omega | (simp <;> omega))).trans (show _ = some (.string s) by first | (with_reducible assumption) | go_simp); have s4 := (hx4.cells (w.heap.size) (4) (by first | omega | (simp <;> omega))).trans (show _ = some (.slice a2 n2 c2) by first | (with_reducible assumption) | go_simp); have s5 := (hx4.cells (w.heap.size) (5) (by first | omega | (simp <;> omega))).trans (show _ = some (.int .i64 e) by first | (with_reducible assumption) | go_simp); have s6 := (hx4.cells (w.heap.size) (6) (by first | omega | (simp <;> omega))).trans (show _ = some (.int .i64 mn) by first | (with_reducible assumption) | go_simp))
          | (go_at_call 53; (with_reducible refine (HN1.out _ extA).mono ?_); rintro e' w3 ⟨rfl, hx3⟩; have hz3 := hx3.size; (try simp at hz3); have hb3_0 : w.heap.size < w3.heap.size := (by omega); have r0 := (hx3.cells (w.heap.size) (0) (by first | omega | (simp <;> omega))).trans (show _ = some (.int .i64 1) by first | (with_reducible assumption) | go_simp); have r1 := (hx3.cells (w.heap.size) (1) (by first | omega | (simp <;> omega))).trans (show _ = some (.slice a1 n1 c1) by first | (with_reducible assumption) | go_simp); have r2 := (hx3.cells (w.heap.size) (2) (by first | omega | (simp <;> omega))).trans (show _ = some (.int .i64 c) by first | (with_reducible assumption) | go_simp); have r3 := (hx3.cells (w.heap.size) (3) (by first | omega | (simp <;> omega))).trans (show _ = some (.string s) by first | (with_reducible assumption) | go_simp); have r4 := (hx3.cells (w.heap.size) (4) (by first | omega | (simp <;> omega))).trans (show _ = some (.slice a2 n2 c2) by first | (with_reducible assumption) | go_simp); have r5 := (hx3.cells (w.heap.size) (5) (by first | omega | (simp <;> omega))).trans (show _ = some (.int .i64 e) by first | (with_reducible assumption) | go_simp); have r6 := (hx3.cells (w.heap.size) (6) (by first | omega | (simp <;> omega))).trans (show _ = some (.int .i64 mn) by first | (with_reducible assumption) | go_simp))
          | (go_at_call 55; (with_reducible refine (HX.out _ extA).mono ?_); rintro e' w5 ⟨cs5, rfl, hm5, hx5⟩; obtain ⟨v5, rfl, hv5, _⟩ := hm5; obtain ⟨a5, n5, c5, rfl⟩ := hv5.slice; clear hv5)
          | (go_at_call 30; (with_reducible refine (between_any _ _ _ _).mono ?_); rintro e' w' ⟨rfl, rfl⟩))
        go_ret
        exact ⟨rfl, extA⟩
      | true =>
        rw [g] at HN2
        clear HN1 HK
        by_cases h1 : mn = 0
        · rw [checkD_put_ok rfl H0.out g h1]
          have t1 : (mn != 0) = false := by simpa using h1
          clear h1
          go_enter Try.func31, Try.ntmps31
          go_wp2_with (first
            | (go_at_call 52; (with_reducible refine (HR.out _ extA).mono ?_); rintro e' w1 ⟨rfl, hx1⟩; have hz1 := hx1.size; (try simp at hz1); have hb1_0 : w.heap.size < w1.heap.size := (by omega); have p0 := (hx1.cells (w.heap.size) (0) (by first | omega | (simp <;> omega))).trans (show _ = some (.int .i64 1) by first | (with_reducible assumption) | go_simp); have p1 := (hx1.cells (w.heap.size) (1) (by first | omega | (simp <;> omega))).trans (show _ = some (.slice a1 n1 c1) by first | (with_reducible assumption) | go_simp); have p2 := (hx1.cells (w.heap.size) (2) (by first | omega | (simp <;> omega))).trans (show _ = some (.int .i64 c) by first | (with_reducible assumption) | go_simp); have p3 := (hx1.cells (w.heap.size) (3) (by first | omega | (simp <;> omega))).trans (show _ = some (.string s) by first | (with_reducible assumption) | go_simp); have p4 := (hx1.cells (w.heap.size) (4) (by first | omega | (simp <;> omega))).trans (show _ = some (.slice a2 n2 c2) by first | (with_reducible assumption) | go_simp); have p5 := (hx1.cells (w.heap.size) (5) (by first | omega | (simp <;> omega))).trans (show _ = some (.int .i64 e) by first | (with_reducible assumption) | go_simp); have p6 := (hx1.cells (w.heap.size) (6) (by first | omega | (simp <;> omega))).trans (show _ = some (.int .i64 mn) by first | (with_reducible assumption) | go_simp))
            | (go_at_call 54; (with_reducible refine (HK.out _ extA).mono ?_); rintro e' w2 ⟨rfl, hx2⟩; have hz2 := hx2.size; (try simp at hz2); have hb2_0 : w.heap.size < w2.heap.size := (by omega); have q0 := (hx2.cells (w.heap.size) (0) (by first | omega | (simp <;> omega))).trans (show _ = some (.int .i64 1) by first | (with_reducible assumption) | go_simp); have q1 := (hx2.cells (w.heap.size) (1) (by first | omega | (simp <;> omega))).trans (show _ = some (.slice a1 n1 c1) by first | (with_reducible assumption) | go_simp); have q2 := (hx2.cells (w.heap.size) (2) (by first | omega | (simp <;> omega))).trans (show _ = some (.int .i64 c) by first | (with_reducible assumption) | go_simp); have q3 := (hx2.cells (w.heap.size) (3) (by first | omega | (simp <;> omega))).trans (show _ = some (.string s) by first | (with_reducible assumption) | go_simp); have q4 := (hx2.cells (w.heap.size) (4) (by first | omega | (simp <;> omega))).trans (show _ = some (.slice a2 n2 c2) by first | (with_reducible assumption) | go_simp); have q5 := (hx2.cells (w.heap.size) (5) (by first | omega | (simp <;> omega))).trans (show _ = some (.int .i64 e) by first | (with_reducible assumption) | go_simp); have q6 := (hx2.cells (w.heap.size) (6) (by first | omega | (simp <;> omega))).trans (show _ = some (.int .i64 mn) by first | (with_reducible assumption) | go_simp))
            | (go_at_call 53; (with_reducible refine (HN2.out _ extA).mono ?_); rintro e' w4 ⟨rfl, hx4⟩; have hz4 := hx4.size; (try simp at hz4); have hb4_0 : w.heap.size < w4.heap.size := (by omega); have s0 := (hx4.cells (w.heap.size) (0) (by first | omega | (simp <;> omega))).trans (show _ = some (.int .i64 1) by first | (with_reducible assumption) | go_simp); have s1 := (hx4.cells (w.heap.size) (1) (by first | omega | (simp <;> omega))).trans (show _ = some (.slice a1 n1 c1) by first | (with_reducible assumption) | go_simp); have s2 := (hx4.cells (w.heap.size) (2) (by first | omega | (simp <;> omega))).trans (show _ = some (.int .i64 c) by first | (with_reducible assumption) | go_simp); have s3 := (hx4.cells (w.heap.size) (3) (by first | omega | (simp <;> omega))).trans (show _ = some (.string s) by first | (with_reducible assumption) | go_simp); have s4 := (hx4.cells (w.heap.size) (4) (by first | omega | (simp <;> omega))).trans (show _ = some (.slice a2 n2 c2) by first | (with_reducible assumption) | go_simp); have s5 := (hx4.cells (w.heap.size) (5) (by first | omega | (simp <;> omega))).trans (show _ = some (.int .i64 e) by first | (with_reducible assumption) | go_simp); have s6 := (hx4.cells (w.heap.size) (6) (by first | omega | (simp <;> omega))).trans (show _ = some (.int .i64 mn) by first | (with_reducible assumption) | go_simp))
            | (go_at_call 53; (with_reducible refine (HN1.out _ extA).mono ?_); rintro e' w3 ⟨rfl, hx3⟩; have hz3 := hx3.size; (try simp at hz3); have hb3_0 : w.heap.size < w3.heap.size := (by omega); have r0 := (hx3.cells (w.heap.size) (0) (by first | omega | (simp <;> omega))).trans (show _ = some (.int .i64 1) by first | (with_reducible assumption) | go_simp); have r1 := (hx3.cells (w.heap.size) (1) (by first | omega | (simp <;> omega))).trans (show _ = some (.slice a1 n1 c1) by first | (with_reducible assumption) | go_simp); have r2 := (hx3.cells (w.heap.size) (2) (by first | omega | (simp <;> omega))).trans (show _ = some (.int .i64 c) by first | (with_reducible assumption) | go_simp); have r3 := (hx3.cells (w.heap.size) (3) (by first | omega | (simp <;> omega))).trans (show _ = some (.string s) by first | (with_reducible assumption) | go_simp); have r4 := (hx3.cells (w.heap.size) (4) (by first | omega | (simp <;> omega))).trans (show _ = some (.slice a2 n2 c2) by first | (with_reducible assumption) | go_simp); have r5 := (hx3.cells (w.heap.size) (5) (by first | omega | (simp <;> omega))).trans (show _ = some (.int .i64 e) by first | (with_reducible assumption) | go_simp); have r6 := (hx3.cells (w.heap.size) (6) (by first | omega | (simp <;> omega))).trans (show _ = some (.int .i64 mn) by first | (with_reducible assumption) | go_simp))
            | (go_at_call 55; (with_reducible refine (HX.out _ extA).mono ?_); rintro e' w5 ⟨cs5, rfl, hm5, hx5⟩; obtain ⟨v5, rfl, hv5, _⟩ := hm5; obtain ⟨a5, n5, c5, rfl⟩ := hv5.slice; clear hv5)
            | (go_at_call 30; (with_reducible refine (between_any _ _ _ _).mono ?_); rintro e' w' ⟨rfl, rfl⟩))
          go_ret
          exact ⟨rfl, extA⟩
        · rw [checkD_put_form rfl H0.out (.inr h1)]
          have t1 : (mn != 0) = true := by simpa using h1
          clear h1
          go_enter Try.func31, Try.ntmps31
          go_wp2_with (first
            | (go_at_call 52; (with_reducible refine (HR.out _ extA).mono ?_); rintro e' w1 ⟨rfl, hx1⟩; have hz1 := hx1.size; (try simp at hz1); have hb1_0 : w.heap.size < w1.heap.size := (by omega); have p0 := (hx1.cells (w.heap.size) (0) (by first | omega | (simp <;> omega))).trans (show _ = some (.int .i64 1) by first | (with_reducible assumption) | go_simp); have p1 := (hx1.cells (w.heap.size) (1) (by first | omega | (simp <;> omega))).trans (show _ = some (.slice a1 n1 c1) by first | (with_reducible assumption) | go_simp); have p2 := (hx1.cells (w.heap.size) (2) (by first | omega | (simp <;> omega))).trans (show _ = some (.int .i64 c) by first | (with_reducible assumption) | go_simp); have p3 := (hx1.cells (w.heap.size) (3) (by first | omega | (simp <;> omega))).trans (show _ = some (.string s) by first | (with_reducible assumption) | go_simp); have p4 := (hx1.cells (w.heap.size) (4) (by first | omega | (simp <;> omega))).trans (show _ = some (.slice a2 n2 c2) by first | (with_reducible assumption) | go_simp); have p5 := (hx1.cells (w.heap.size) (5) (by first | omega | (simp <;> omega))).trans (show _ = some (.int .i64 e) by first | (with_reducible assumption) | go_simp); have p6 := (hx1.cells (w.heap.size) (6) (by first | omega | (simp <;> omega))).trans (show _ = some (.int .i64 mn) by first | (with_reducible assumption) | go_simp))
            | (go_at_call 54; (with_reducible refine (HK.out _ extA).mono ?_); rintro e' w2 ⟨rfl, hx2⟩; have hz2 := hx2.size; (try simp at hz2); have hb2_0 : w.heap.size < w2.heap.size := (by omega); have q0 := (hx2.cells (w.heap.size) (0) (by first | omega | (simp <;> omega))).trans (show _ = some (.int .i64 1) by first | (with_reducible assumption) | go_simp); have q1 := (hx2.cells (w.heap.size) (1) (by first | omega | (simp <;> omega))).trans (show _ = some (.slice a1 n1 c1) by first | (with_reducible assumption) | go_simp); have q2 := (hx2.cells (w.heap.size) (2) (by first | omega | (simp <;> omega))).trans (show _ = some (.int .i64 c) by first | (with_reducible assumption) | go_simp); have q3 := (hx2.cells (w.heap.size) (3) (by first | omega | (simp <;> omega))).trans (show _ = some (.string s) by first | (with_reducible assumption) | go_simp); have q4 := (hx2.cells (w.heap.size) (4) (by first | omega | (simp <;> omega))).trans (show _ = some (.slice a2 n2 c2) by first | (with_reducible assumption) | go_simp); have q5 := (hx2.cells (w.heap.size) (5) (by first | omega | (simp <;> omega))).trans (show _ = some (.int .i64 e) by first | (with_reducible assumption) | go_simp); have q6 := (hx2.cells (w.heap.size) (6) (by first | omega | (simp <;> omega))).trans (show _ = some (.int .i64 mn) by first | (with_reducible assumption) | go_simp))
            | (go_at_call 53; (with_reducible refine (HN2.out _ extA).mono ?_); rintro e' w4 ⟨rfl, hx4⟩; have hz4 := hx4.size; (try simp at hz4); have hb4_0 : w.heap.size < w4.heap.size := (by omega); have s0 := (hx4.cells (w.heap.size) (0) (by first | omega | (simp <;> omega))).trans (show _ = some (.int .i64 1) by first | (with_reducible assumption) | go_simp); have s1 := (hx4.cells (w.heap.size) (1) (by first | omega | (simp <;> omega))).trans (show _ = some (.slice a1 n1 c1) by first | (with_reducible assumption) | go_simp); have s2 := (hx4.cells (w.heap.size) (2) (by first | omega | (simp <;> omega))).trans (show _ = some (.int .i64 c) by first | (with_reducible assumption) | go_simp); have s3 := (hx4.cells (w.heap.size) (3) (by first | omega | (simp <;> omega))).trans (show _ = some (.string s) by first | (with_reducible assumption) | go_simp); have s4 := (hx4.cells (w.heap.size) (4) (by first | omega | (simp <;> omega))).trans (show _ = some (.slice a2 n2 c2) by first | (with_reducible assumption) | go_simp); have s5 := (hx4.cells (w.heap.size) (5) (by first | omega | (simp <;> omega))).trans (show _ = some (.int .i64 e) by first | (with_reducible assumption) | go_simp); have s6 := (hx4.cells (w.heap.size) (6) (by first | omega | (simp <;> omega))).trans (show _ = some (.int .i64 mn) by first | (with_reducible assumption) | go_simp))
            | (go_at_call 53; (with_reducible refine (HN1.out _ extA).mono ?_); rintro e' w3 ⟨rfl, hx3⟩; have hz3 := hx3.size; (try simp at hz3); have hb3_0 : w.heap.size < w3.heap.size := (by omega); have r0 := (hx3.cells (w.heap.size) (0) (by first | omega | (simp <;> omega))).trans (show _ = some (.int .i64 1) by first | (with_reducible assumption) | go_simp); have r1 := (hx3.cells (w.heap.size) (1) (by first | omega | (simp <;> omega))).trans (show _ = some (.slice a1 n1 c1) by first | (with_reducible assumption) | go_simp); have r2 := (hx3.cells (w.heap.size) (2) (by first | omega | (simp <;> omega))).trans (show _ = some (.int .i64 c) by first | (with_reducible assumption) | go_simp); have r3 := (hx3.cells (w.heap.size) (3) (by first | omega | (simp <;> omega))).trans (show _ = some (.string s) by first | (with_reducible assumption) | go_simp); have r4 := (hx3.cells (w.heap.size) (4) (by first | omega | (simp <;> omega))).trans (show _ = some (.slice a2 n2 c2) by first | (with_reducible assumption) | go_simp); have r5 := (hx3.cells (w.heap.size) (5) (by first | omega | (simp <;> omega))).trans (show _ = some (.int .i64 e) by first | (with_reducible assumption) | go_simp); have r6 := (hx3.cells (w.heap.size) (6) (by first | omega | (simp <;> omega))).trans (show _ = some (.int .i64 mn) by first | (with_reducible assumption) | go_simp))
            | (go_at_call 55; (with_reducible refine (HX.out _ extA).mono ?_); rintro e' w5 ⟨cs5, rfl, hm5, hx5⟩; obtain ⟨v5, rfl, hv5, _⟩ := hm5; obtain ⟨a5, n5, c5, rfl⟩ := hv5.slice; clear hv5)
            | (go_at_call 30; (with_reducible refine (between_any _ _ _ _).mono ?_); rintro e' w' ⟨rfl, rfl⟩))
          go_ret
          exact ⟨rfl, extA⟩
    · rw [checkD_put_bad rfl h0]
      simp only
      have t1 : (checkR ((l, c), s.data.toList) != 0) = true := by simpa using h0
      have t2 : (checkR ((l, c), s.data.toList) == 0) = false := by simpa using h0
      generalize checkR ((l, c), s.data.toList) = r at *
      clear h0
      go_enter Try.func31, Try.ntmps31
      go_wp2_with (first
        | (go_at_call 52; (with_reducible refine (HR.out _ extA).mono ?_); rintro e' w1 ⟨rfl, hx1⟩; have hz1 := hx1.size; (try simp at hz1); have hb1_0 : w.heap.size < w1.heap.size := (by omega); have p0 := (hx1.cells (w.heap.size) (0) (by first | omega | (simp <;> omega))).trans (show _ = some (.int .i64 1) by first | (with_reducible assumption) | go_simp); have p1 := (hx1.cells (w.heap.size) (1) (by first | omega | (simp <;> omega))).trans (show _ = some (.slice a1 n1 c1) by first | (with_reducible assumption) | go_simp); have p2 := (hx1.cells (w.heap.size) (2) (by first | omega | (simp <;> omega))).trans (show _ = some (.int .i64 c) by first | (with_reducible assumption) | go_simp); have p3 := (hx1.cells (w.heap.size) (3) (by first | omega | (simp <;> omega))).trans (show _ = some (.string s) by first | (with_reducible assumption) | go_simp); have p4 := (hx1.cells (w.heap.size) (4) (by first | omega | (simp <;> omega))).trans (show _ = some (.slice a2 n2 c2) by first | (with_reducible assumption) | go_simp); have p5 := (hx1.cells (w.heap.size) (5) (by first | omega | (simp <;> omega))).trans (show _ = some (.int .i64 e) by first | (with_reducible assumption) | go_simp); have p6 := (hx1.cells (w.heap.size) (6) (by first | omega | (simp <;> omega))).trans (show _ = some (.int .i64 mn) by first | (with_reducible assumption) | go_simp))
        | (go_at_call 54; (with_reducible refine (HK.out _ extA).mono ?_); rintro e' w2 ⟨rfl, hx2⟩; have hz2 := hx2.size; (try simp at hz2); have hb2_0 : w.heap.size < w2.heap.size := (by omega); have q0 := (hx2.cells (w.heap.size) (0) (by first | omega | (simp <;> omega))).trans (show _ = some (.int .i64 1) by first | (with_reducible assumption) | go_simp); have q1 := (hx2.cells (w.heap.size) (1) (by first | omega | (simp <;> omega))).trans (show _ = some (.slice a1 n1 c1) by first | (with_reducible assumption) | go_simp); have q2 := (hx2.cells (w.heap.size) (2) (by first | omega | (simp <;> omega))).trans (show _ = some (.int .i64 c) by first | (with_reducible assumption) | go_simp); have q3 := (hx2.cells (w.heap.size) (3) (by first | omega | (simp <;> omega))).trans (show _ = some (.string s) by first | (with_reducible assumption) | go_simp); have q4 := (hx2.cells (w.heap.size) (4) (by first | omega | (simp <;> omega))).trans (show _ = some (.slice a2 n2 c2) by first | (with_reducible assumption) | go_simp); have q5 := (hx2.cells (w.heap.size) (5) (by first | omega | (simp <;> omega))).trans (show _ = some (.int .i64 e) by first | (with_reducible assumption) | go_simp); have q6 := (hx2.cells (w.heap.size) (6) (by first | omega | (simp <;> omega))).trans (show _ = some (.int .i64 mn) by first | (with_reducible assumption) | go_simp))
        | (go_at_call 53; (with_reducible refine (HN2.out _ extA).mono ?_); rintro e' w4 ⟨rfl, hx4⟩; have hz4 := hx4.size; (try simp at hz4); have hb4_0 : w.heap.size < w4.heap.size := (by omega); have s0 := (hx4.cells (w.heap.size) (0) (by first | omega | (simp <;> omega))).trans (show _ = some (.int .i64 1) by first | (with_reducible assumption) | go_simp); have s1 := (hx4.cells (w.heap.size) (1) (by first | omega | (simp <;> omega))).trans (show _ = some (.slice a1 n1 c1) by first | (with_reducible assumption) | go_simp); have s2 := (hx4.cells (w.heap.size) (2) (by first | omega | (simp <;> omega))).trans (show _ = some (.int .i64 c) by first | (with_reducible assumption) | go_simp); have s3 := (hx4.cells (w.heap.size) (3) (by first | omega | (simp <;> omega))).trans (show _ = some (.string s) by first | (with_reducible assumption) | go_simp); have s4 := (hx4.cells (w.heap.size) (4) (by first | omega | (simp <;> omega))).trans (show _ = some (.slice a2 n2 c2) by first | (with_reducible assumption) | go_simp); have s5 := (hx4.cells (w.heap.size) (5) (by first | omega | (simp <;> omega))).trans (show _ = some (.int .i64 e) by first | (with_reducible assumption) | go_simp); have s6 := (hx4.cells (w.heap.size) (6) (by first | omega | (simp <;> omega))).trans (show _ = some (.int .i64 mn) by first | (with_reducible assumption) | go_simp))
        | (go_at_call 53; (with_reducible refine (HN1.out _ extA).mono ?_); rintro e' w3 ⟨rfl, hx3⟩; have hz3 := hx3.size; (try simp at hz3); have hb3_0 : w.heap.size < w3.heap.size := (by omega); have r0 := (hx3.cells (w.heap.size) (0) (by first | omega | (simp <;> omega))).trans (show _ = some (.int .i64 1) by first | (with_reducible assumption) | go_simp); have r1 := (hx3.cells (w.heap.size) (1) (by first | omega | (simp <;> omega))).trans (show _ = some (.slice a1 n1 c1) by first | (with_reducible assumption) | go_simp); have r2 := (hx3.cells (w.heap.size) (2) (by first | omega | (simp <;> omega))).trans (show _ = some (.int .i64 c) by first | (with_reducible assumption) | go_simp); have r3 := (hx3.cells (w.heap.size) (3) (by first | omega | (simp <;> omega))).trans (show _ = some (.string s) by first | (with_reducible assumption) | go_simp); have r4 := (hx3.cells (w.heap.size) (4) (by first | omega | (simp <;> omega))).trans (show _ = some (.slice a2 n2 c2) by first | (with_reducible assumption) | go_simp); have r5 := (hx3.cells (w.heap.size) (5) (by first | omega | (simp <;> omega))).trans (show _ = some (.int .i64 e) by first | (with_reducible assumption) | go_simp); have r6 := (hx3.cells (w.heap.size) (6) (by first | omega | (simp <;> omega))).trans (show _ = some (.int .i64 mn) by first | (with_reducible assumption) | go_simp))
        | (go_at_call 55; (with_reducible refine (HX.out _ extA).mono ?_); rintro e' w5 ⟨cs5, rfl, hm5, hx5⟩; obtain ⟨v5, rfl, hv5, _⟩ := hm5; obtain ⟨a5, n5, c5, rfl⟩ := hv5.slice; clear hv5)
        | (go_at_call 30; (with_reducible refine (between_any _ _ _ _).mono ?_); rintro e' w' ⟨rfl, rfl⟩))
      go_ret
      exact ⟨rfl, extA⟩
  · have t0 : (kd == 1) = false := by simpa using k1
    by_cases k2 : kd = 2
    · subst k2
      by_cases h0 : checkM (m, e) = 0
      · have H0 := Lib.hid h0
        rw [h0] at HK
        clear h0
        cases g : noneM (l, c) with
        | false =>
          rw [checkD_take_form k1 rfl H0.out (.inl g)]
          rw [g] at HN1
          clear k1 HN2
          go_enter Try.func31, Try.ntmps31
          go_wp2_with (first
            | (go_at_call 52; (with_reducible refine (HR.out _ extA).mono ?_); rintro e' w1 ⟨rfl, hx1⟩; have hz1 := hx1.size; (try simp at hz1); have hb1_0 : w.heap.size < w1.heap.size := (by omega); have p0 := (hx1.cells (w.heap.size) (0) (by first | omega | (simp <;> omega))).trans (show _ = some (.int .i64 2) by first | (with_reducible assumption) | go_simp); have p1 := (hx1.cells (w.heap.size) (1) (by first | omega | (simp <;> omega))).trans (show _ = some (.slice a1 n1 c1) by first | (with_reducible assumption) | go_simp); have p2 := (hx1.cells (w.heap.size) (2) (by first | omega | (simp <;> omega))).trans (show _ = some (.int .i64 c) by first | (with_reducible assumption) | go_simp); have p3 := (hx1.cells (w.heap.size) (3) (by first | omega | (simp <;> omega))).trans (show _ = some (.string s) by first | (with_reducible assumption) | go_simp); have p4 := (hx1.cells (w.heap.size) (4) (by first | omega | (simp <;> omega))).trans (show _ = some (.slice a2 n2 c2) by first | (with_reducible assumption) | go_simp); have p5 := (hx1.cells (w.heap.size) (5) (by first | omega | (simp <;> omega))).trans (show _ = some (.int .i64 e) by first | (with_reducible assumption) | go_simp); have p6 := (hx1.cells (w.heap.size) (6) (by first | omega | (simp <;> omega))).trans (show _ = some (.int .i64 mn) by first | (with_reducible assumption) | go_simp))
            | (go_at_call 54; (with_reducible refine (HK.out _ extA).mono ?_); rintro e' w2 ⟨rfl, hx2⟩; have hz2 := hx2.size; (try simp at hz2); have hb2_0 : w.heap.size < w2.heap.size := (by omega); have q0 := (hx2.cells (w.heap.size) (0) (by first | omega | (simp <;> omega))).trans (show _ = some (.int .i64 2) by first | (with_reducible assumption) | go_simp); have q1 := (hx2.cells (w.heap.size) (1) (by first | omega | (simp <;> omega))).trans (show _ = some (.slice a1 n1 c1) by first | (with_reducible assumption) | go_simp); have q2 := (hx2.cells (w.heap.size) (2) (by first | omega | (simp <;> omega))).trans (show _ = some (.int .i64 c) by first | (with_reducible assumption) | go_simp); have q3 := (hx2.cells (w.heap.size) (3) (by first | omega | (simp <;> omega))).trans (show _ = some (.string s) by first | (with_reducible assumption) | go_simp); have q4 := (hx2.cells (w.heap.size) (4) (by first | omega | (simp <;> omega))).trans (show _ = some (.slice a2 n2 c2) by first | (with_reducible assumption) | go_simp); have q5 := (hx2.cells (w.heap.size) (5) (by first | omega | (simp <;> omega))).trans (show _ = some (.int .i64 e) by first | (with_reducible assumption) | go_simp); have q6 := (hx2.cells (w.heap.size) (6) (by first | omega | (simp <;> omega))).trans (show _ = some (.int .i64 mn) by first | (with_reducible assumption) | go_simp))
            | (go_at_call 53; (with_reducible refine (HN2.out _ extA).mono ?_); rintro e' w4 ⟨rfl, hx4⟩; have hz4 := hx4.size; (try simp at hz4); have hb4_0 : w.heap.size < w4.heap.size := (by omega); have s0 := (hx4.cells (w.heap.size) (0) (by first | omega | (simp <;> omega))).trans (show _ = some (.int .i64 2) by first | (with_reducible assumption) | go_simp); have s1 := (hx4.cells (w.heap.size) (1) (by first | omega | (simp <;> omega))).trans (show _ = some (.slice a1 n1 c1) by first | (with_reducible assumption) | go_simp); have s2 := (hx4.cells (w.heap.size) (2) (by first | omega | (simp <;> omega))).trans (show _ = some (.int .i64 c) by first | (with_reducible assumption) | go_simp); have s3 := (hx4.cells (w.heap.size) (3) (by first | omega | (simp <;> omega))).trans (show _ = some (.string s) by first | (with_reducible assumption) | go_simp); have s4 := (hx4.cells (w.heap.size) (4) (by first | omega | (simp <;> omega))).trans (show _ = some (.slice a2 n2 c2) by first | (with_reducible assumption) | go_simp); have s5 := (hx4.cells (w.heap.size) (5) (by first | omega | (simp <;> omega))).trans (show _ = some (.int .i64 e) by first | (with_reducible assumption) | go_simp); have s6 := (hx4.cells (w.heap.size) (6) (by first | omega | (simp <;> omega))).trans (show _ = some (.int .i64 mn) by first | (with_reducible assumption) | go_simp))
            | (go_at_call 53; (with_reducible refine (HN1.out _ extA).mono ?_); rintro e' w3 ⟨rfl, hx3⟩; have hz3 := hx3.size; (try simp at hz3); have hb3_0 : w.heap.size < w3.heap.size := (by omega); have r0 := (hx3.cells (w.heap.size) (0) (by first | omega | (simp <;> omega))).trans (show _ = some (.int .i64 2) by first | (with_reducible assumption) | go_simp); have r1 := (hx3.cells (w.heap.size) (1) (by first | omega | (simp <;> omega))).trans (show _ = some (.slice a1 n1 c1) by first | (with_reducible assumption) | go_simp); have r2 := (hx3.cells (w.heap.size) (2) (by first | omega | (simp <;> omega))).trans (show _ = some (.int .i64 c) by first | (with_reducible assumption) | go_simp); have r3 := (hx3.cells (w.heap.size) (3) (by first | omega | (simp <;> omega))).trans (show _ = some (.string s) by first | (with_reducible assumption) | go_simp); have r4 := (hx3.cells (w.heap.size) (4) (by first | omega | (simp <;> omega))).trans (show _ = some (.slice a2 n2 c2) by first | (with_reducible assumption) | go_simp); have r5 := (hx3.cells (w.heap.size) (5) (by first | omega | (simp <;> omega))).trans (show _ = some (.int .i64 e) by first | (with_reducible assumption) | go_simp); have r6 := (hx3.cells (w.heap.size) (6) (by first | omega | (simp <;> omega))).trans (show _ = some (.int .i64 mn) by first | (with_reducible assumption) | go_simp))
            | (go_at_call 55; (with_reducible refine (HX.out _ extA).mono ?_); rintro e' w5 ⟨cs5, rfl, hm5, hx5⟩; obtain ⟨v5, rfl, hv5, _⟩ := hm5; obtain ⟨a5, n5, c5, rfl⟩ := hv5.slice; clear hv5)
            | (go_at_call 30; (with_reducible refine (between_any _ _ _ _).mono ?_); rintro e' w' ⟨rfl, rfl⟩))
          go_ret
          exact ⟨rfl, extA⟩
        | true =>
          rw [g] at HN1
          clear HN2
          by_cases h1 : s.size = 0
          · have t1 : s.toList.isEmpty = true := empty_yes h1
            by_cases h2 : mn < 1 ∨ 60 < mn
            · rw [checkD_take_range k1 rfl H0.out g (bytes_nil h1) h2]
              have t3 : inB mn 1 60 = false := by unfold inB; simp; omega
              rcases h2 with h2 | h2
              · have t2 : decide (mn < 1) = true := decide_eq_true h2
                clear k1 h1
                go_enter Try.func31, Try.ntmps31
                go_wp2_with (first
                  | (go_at_call 52; (with_reducible refine (HR.out _ extA).mono ?_); rintro e' w1 ⟨rfl, hx1⟩; have hz1 := hx1.size; (try simp at hz1); have hb1_0 : w.heap.size < w1.heap.size := (by omega); have p0 := (hx1.cells (w.heap.size) (0) (by first | omega | (simp <;> omega))).trans (show _ = some (.int .i64 2) by first | (with_reducible assumption) | go_simp); have p1 := (hx1.cells (w.heap.size) (1) (by first | omega | (simp <;> omega))).trans (show _ = some (.slice a1 n1 c1) by first | (with_reducible assumption) | go_simp); have p2 := (hx1.cells (w.heap.size) (2) (by first | omega | (simp <;> omega))).trans (show _ = some (.int .i64 c) by first | (with_reducible assumption) | go_simp); have p3 := (hx1.cells (w.heap.size) (3) (by first | omega | (simp <;> omega))).trans (show _ = some (.string s) by first | (with_reducible assumption) | go_simp); have p4 := (hx1.cells (w.heap.size) (4) (by first | omega | (simp <;> omega))).trans (show _ = some (.slice a2 n2 c2) by first | (with_reducible assumption) | go_simp); have p5 := (hx1.cells (w.heap.size) (5) (by first | omega | (simp <;> omega))).trans (show _ = some (.int .i64 e) by first | (with_reducible assumption) | go_simp); have p6 := (hx1.cells (w.heap.size) (6) (by first | omega | (simp <;> omega))).trans (show _ = some (.int .i64 mn) by first | (with_reducible assumption) | go_simp))
                  | (go_at_call 54; (with_reducible refine (HK.out _ extA).mono ?_); rintro e' w2 ⟨rfl, hx2⟩; have hz2 := hx2.size; (try simp at hz2); have hb2_0 : w.heap.size < w2.heap.size := (by omega); have q0 := (hx2.cells (w.heap.size) (0) (by first | omega | (simp <;> omega))).trans (show _ = some (.int .i64 2) by first | (with_reducible assumption) | go_simp); have q1 := (hx2.cells (w.heap.size) (1) (by first | omega | (simp <;> omega))).trans (show _ = some (.slice a1 n1 c1) by first | (with_reducible assumption) | go_simp); have q2 := (hx2.cells (w.heap.size) (2) (by first | omega | (simp <;> omega))).trans (show _ = some (.int .i64 c) by first | (with_reducible assumption) | go_simp); have q3 := (hx2.cells (w.heap.size) (3) (by first | omega | (simp <;> omega))).trans (show _ = some (.string s) by first | (with_reducible assumption) | go_simp); have q4 := (hx2.cells (w.heap.size) (4) (by first | omega | (simp <;> omega))).trans (show _ = some (.slice a2 n2 c2) by first | (with_reducible assumption) | go_simp); have q5 := (hx2.cells (w.heap.size) (5) (by first | omega | (simp <;> omega))).trans (show _ = some (.int .i64 e) by first | (with_reducible assumption) | go_simp); have q6 := (hx2.cells (w.heap.size) (6) (by first | omega | (simp <;> omega))).trans (show _ = some (.int .i64 mn) by first | (with_reducible assumption) | go_simp))
                  | (go_at_call 53; (with_reducible refine (HN2.out _ extA).mono ?_); rintro e' w4 ⟨rfl, hx4⟩; have hz4 := hx4.size; (try simp at hz4); have hb4_0 : w.heap.size < w4.heap.size := (by omega); have s0 := (hx4.cells (w.heap.size) (0) (by first | omega | (simp <;> omega))).trans (show _ = some (.int .i64 2) by first | (with_reducible assumption) | go_simp); have s1 := (hx4.cells (w.heap.size) (1) (by first | omega | (simp <;> omega))).trans (show _ = some (.slice a1 n1 c1) by first | (with_reducible assumption) | go_simp); have s2 := (hx4.cells (w.heap.size) (2) (by first | omega | (simp <;> omega))).trans (show _ = some (.int .i64 c) by first | (with_reducible assumption) | go_simp); have s3 := (hx4.cells (w.heap.size) (3) (by first | omega | (simp <;> omega))).trans (show _ = some (.string s) by first | (with_reducible assumption) | go_simp); have s4 := (hx4.cells (w.heap.size) (4) (by first | omega | (simp <;> omega))).trans (show _ = some (.slice a2 n2 c2) by first | (with_reducible assumption) | go_simp); have s5 := (hx4.cells (w.heap.size) (5) (by first | omega | (simp <;> omega))).trans (show _ = some (.int .i64 e) by first | (with_reducible assumption) | go_simp); have s6 := (hx4.cells (w.heap.size) (6) (by first | omega | (simp <;> omega))).trans (show _ = some (.int .i64 mn) by first | (with_reducible assumption) | go_simp))
                  | (go_at_call 53; (with_reducible refine (HN1.out _ extA).mono ?_); rintro e' w3 ⟨rfl, hx3⟩; have hz3 := hx3.size; (try simp at hz3); have hb3_0 : w.heap.size < w3.heap.size := (by omega); have r0 := (hx3.cells (w.heap.size) (0) (by first | omega | (simp <;> omega))).trans (show _ = some (.int .i64 2) by first | (with_reducible assumption) | go_simp); have r1 := (hx3.cells (w.heap.size) (1) (by first | omega | (simp <;> omega))).trans (show _ = some (.slice a1 n1 c1) by first | (with_reducible assumption) | go_simp); have r2 := (hx3.cells (w.heap.size) (2) (by first | omega | (simp <;> omega))).trans (show _ = some (.int .i64 c) by first | (with_reducible assumption) | go_simp); have r3 := (hx3.cells (w.heap.size) (3) (by first | omega | (simp <;> omega))).trans (show _ = some (.string s) by first | (with_reducible assumption) | go_simp); have r4 := (hx3.cells (w.heap.size) (4) (by first | omega | (simp <;> omega))).trans (show _ = some (.slice a2 n2 c2) by first | (with_reducible assumption) | go_simp); have r5 := (hx3.cells (w.heap.size) (5) (by first | omega | (simp <;> omega))).trans (show _ = some (.int .i64 e) by first | (with_reducible assumption) | go_simp); have r6 := (hx3.cells (w.heap.size) (6) (by first | omega | (simp <;> omega))).trans (show _ = some (.int .i64 mn) by first | (with_reducible assumption) | go_simp))
                  | (go_at_call 55; (with_reducible refine (HX.out _ extA).mono ?_); rintro e' w5 ⟨cs5, rfl, hm5, hx5⟩; obtain ⟨v5, rfl, hv5, _⟩ := hm5; obtain ⟨a5, n5, c5, rfl⟩ := hv5.slice; clear hv5)
                  | (go_at_call 30; (with_reducible refine (between_any _ _ _ _).mono ?_); rintro e' w' ⟨rfl, rfl⟩))
                go_ret
                exact ⟨rfl, extA⟩
              · have t2 : decide (mn < 1) = false := decide_eq_false (by omega)
                have t4 : decide (60 < mn) = true := decide_eq_true h2
                clear k1 h1
                go_enter Try.func31, Try.ntmps31
                go_wp2_with (first
                  | (go_at_call 52; (with_reducible refine (HR.out _ extA).mono ?_); rintro e' w1 ⟨rfl, hx1⟩; have hz1 := hx1.size; (try simp at hz1); have hb1_0 : w.heap.size < w1.heap.size := (by omega); have p0 := (hx1.cells (w.heap.size) (0) (by first | omega | (simp <;> omega))).trans (show _ = some (.int .i64 2) by first | (with_reducible assumption) | go_simp); have p1 := (hx1.cells (w.heap.size) (1) (by first | omega | (simp <;> omega))).trans (show _ = some (.slice a1 n1 c1) by first | (with_reducible assumption) | go_simp); have p2 := (hx1.cells (w.heap.size) (2) (by first | omega | (simp <;> omega))).trans (show _ = some (.int .i64 c) by first | (with_reducible assumption) | go_simp); have p3 := (hx1.cells (w.heap.size) (3) (by first | omega | (simp <;> omega))).trans (show _ = some (.string s) by first | (with_reducible assumption) | go_simp); have p4 := (hx1.cells (w.heap.size) (4) (by first | omega | (simp <;> omega))).trans (show _ = some (.slice a2 n2 c2) by first | (with_reducible assumption) | go_simp); have p5 := (hx1.cells (w.heap.size) (5) (by first | omega | (simp <;> omega))).trans (show _ = some (.int .i64 e) by first | (with_reducible assumption) | go_simp); have p6 := (hx1.cells (w.heap.size) (6) (by first | omega | (simp <;> omega))).trans (show _ = some (.int .i64 mn) by first | (with_reducible assumption) | go_simp))
                  | (go_at_call 54; (with_reducible refine (HK.out _ extA).mono ?_); rintro e' w2 ⟨rfl, hx2⟩; have hz2 := hx2.size; (try simp at hz2); have hb2_0 : w.heap.size < w2.heap.size := (by omega); have q0 := (hx2.cells (w.heap.size) (0) (by first | omega | (simp <;> omega))).trans (show _ = some (.int .i64 2) by first | (with_reducible assumption) | go_simp); have q1 := (hx2.cells (w.heap.size) (1) (by first | omega | (simp <;> omega))).trans (show _ = some (.slice a1 n1 c1) by first | (with_reducible assumption) | go_simp); have q2 := (hx2.cells (w.heap.size) (2) (by first | omega | (simp <;> omega))).trans (show _ = some (.int .i64 c) by first | (with_reducible assumption) | go_simp); have q3 := (hx2.cells (w.heap.size) (3) (by first | omega | (simp <;> omega))).trans (show _ = some (.string s) by first | (with_reducible assumption) | go_simp); have q4 := (hx2.cells (w.heap.size) (4) (by first | omega | (simp <;> omega))).trans (show _ = some (.slice a2 n2 c2) by first | (with_reducible assumption) | go_simp); have q5 := (hx2.cells (w.heap.size) (5) (by first | omega | (simp <;> omega))).trans (show _ = some (.int .i64 e) by first | (with_reducible assumption) | go_simp); have q6 := (hx2.cells (w.heap.size) (6) (by first | omega | (simp <;> omega))).trans (show _ = some (.int .i64 mn) by first | (with_reducible assumption) | go_simp))
                  | (go_at_call 53; (with_reducible refine (HN2.out _ extA).mono ?_); rintro e' w4 ⟨rfl, hx4⟩; have hz4 := hx4.size; (try simp at hz4); have hb4_0 : w.heap.size < w4.heap.size := (by omega); have s0 := (hx4.cells (w.heap.size) (0) (by first | omega | (simp <;> omega))).trans (show _ = some (.int .i64 2) by first | (with_reducible assumption) | go_simp); have s1 := (hx4.cells (w.heap.size) (1) (by first | omega | (simp <;> omega))).trans (show _ = some (.slice a1 n1 c1) by first | (with_reducible assumption) | go_simp); have s2 := (hx4.cells (w.heap.size) (2) (by first | omega | (simp <;> omega))).trans (show _ = some (.int .i64 c) by first | (with_reducible assumption) | go_simp); have s3 := (hx4.cells (w.heap.size) (3) (by first | omega | (simp <;> omega))).trans (show _ = some (.string s) by first | (with_reducible assumption) | go_simp); have s4 := (hx4.cells (w.heap.size) (4) (by first | omega | (simp <;> omega))).trans (show _ = some (.slice a2 n2 c2) by first | (with_reducible assumption) | go_simp); have s5 := (hx4.cells (w.heap.size) (5) (by first | omega | (simp <;> omega))).trans (show _ = some (.int .i64 e) by first | (with_reducible assumption) | go_simp); have s6 := (hx4.cells (w.heap.size) (6) (by first | omega | (simp <;> omega))).trans (show _ = some (.int .i64 mn) by first | (with_reducible assumption) | go_simp))
                  | (go_at_call 53; (with_reducible refine (HN1.out _ extA).mono ?_); rintro e' w3 ⟨rfl, hx3⟩; have hz3 := hx3.size; (try simp at hz3); have hb3_0 : w.heap.size < w3.heap.size := (by omega); have r0 := (hx3.cells (w.heap.size) (0) (by first | omega | (simp <;> omega))).trans (show _ = some (.int .i64 2) by first | (with_reducible assumption) | go_simp); have r1 := (hx3.cells (w.heap.size) (1) (by first | omega | (simp <;> omega))).trans (show _ = some (.slice a1 n1 c1) by first | (with_reducible assumption) | go_simp); have r2 := (hx3.cells (w.heap.size) (2) (by first | omega | (simp <;> omega))).trans (show _ = some (.int .i64 c) by first | (with_reducible assumption) | go_simp); have r3 := (hx3.cells (w.heap.size) (3) (by first | omega | (simp <;> omega))).trans (show _ = some (.string s) by first | (with_reducible assumption) | go_simp); have r4 := (hx3.cells (w.heap.size) (4) (by first | omega | (simp <;> omega))).trans (show _ = some (.slice a2 n2 c2) by first | (with_reducible assumption) | go_simp); have r5 := (hx3.cells (w.heap.size) (5) (by first | omega | (simp <;> omega))).trans (show _ = some (.int .i64 e) by first | (with_reducible assumption) | go_simp); have r6 := (hx3.cells (w.heap.size) (6) (by first | omega | (simp <;> omega))).trans (show _ = some (.int .i64 mn) by first | (with_reducible assumption) | go_simp))
                  | (go_at_call 55; (with_reducible refine (HX.out _ extA).mono ?_); rintro e' w5 ⟨cs5, rfl, hm5, hx5⟩; obtain ⟨v5, rfl, hv5, _⟩ := hm5; obtain ⟨a5, n5, c5, rfl⟩ := hv5.slice; clear hv5)
                  | (go_at_call 30; (with_reducible refine (between_any _ _ _ _).mono ?_); rintro e' w' ⟨rfl, rfl⟩))
                go_ret
                exact ⟨rfl, extA⟩
            · rw [checkD_take_next k1 rfl H0.out g (bytes_nil h1) h2]
              have t3 : inB mn 1 60 = true := by unfold inB; simp; omega
              have t2 : decide (mn < 1) = false := decide_eq_false (by omega)
              have t4 : decide (60 < mn) = false := decide_eq_false (by omega)
              have b1 : 1 ≤ mn := by omega
              have b2 : mn ≤ 60 := by omega
              clear k1 h1 h2
              simp only
              generalize nextM (m, e) (mn - 1) = nx at *
              obtain ⟨⟨np, nc⟩, er⟩ := nx
              simp only at HX ⊢
              go_enter Try.func31, Try.ntmps31
              go_wp2_with (first
                | (go_at_call 52; (with_reducible refine (HR.out _ extA).mono ?_); rintro e' w1 ⟨rfl, hx1⟩; have hz1 := hx1.size; (try simp at hz1); have hb1_0 : w.heap.size < w1.heap.size := (by omega); have p0 := (hx1.cells (w.heap.size) (0) (by first | omega | (simp <;> omega))).trans (show _ = some (.int .i64 2) by first | (with_reducible assumption) | go_simp); have p1 := (hx1.cells (w.heap.size) (1) (by first | omega | (simp <;> omega))).trans (show _ = some (.slice a1 n1 c1) by first | (with_reducible assumption) | go_simp); have p2 := (hx1.cells (w.heap.size) (2) (by first | omega | (simp <;> omega))).trans (show _ = some (.int .i64 c) by first | (with_reducible assumption) | go_simp); have p3 := (hx1.cells (w.heap.size) (3) (by first | omega | (simp <;> omega))).trans (show _ = some (.string s) by first | (with_reducible assumption) | go_simp); have p4 := (hx1.cells (w.heap.size) (4) (by first | omega | (simp <;> omega))).trans (show _ = some (.slice a2 n2 c2) by first | (with_reducible assumption) | go_simp); have p5 := (hx1.cells (w.heap.size) (5) (by first | omega | (simp <;> omega))).trans (show _ = some (.int .i64 e) by first | (with_reducible assumption) | go_simp); have p6 := (hx1.cells (w.heap.size) (6) (by first | omega | (simp <;> omega))).trans (show _ = some (.int .i64 mn) by first | (with_reducible assumption) | go_simp))
                | (go_at_call 54; (with_reducible refine (HK.out _ extA).mono ?_); rintro e' w2 ⟨rfl, hx2⟩; have hz2 := hx2.size; (try simp at hz2); have hb2_0 : w.heap.size < w2.heap.size := (by omega); have q0 := (hx2.cells (w.heap.size) (0) (by first | omega | (simp <;> omega))).trans (show _ = some (.int .i64 2) by first | (with_reducible assumption) | go_simp); have q1 := (hx2.cells (w.heap.size) (1) (by first | omega | (simp <;> omega))).trans (show _ = some (.slice a1 n1 c1) by first | (with_reducible assumption) | go_simp); have q2 := (hx2.cells (w.heap.size) (2) (by first | omega | (simp <;> omega))).trans (show _ = some (.int .i64 c) by first | (with_reducible assumption) | go_simp); have q3 := (hx2.cells (w.heap.size) (3) (by first | omega | (simp <;> omega))).trans (show _ = some (.string s) by first | (with_reducible assumption) | go_simp); have q4 := (hx2.cells (w.heap.size) (4) (by first | omega | (simp <;> omega))).trans (show _ = some (.slice a2 n2 c2) by first | (with_reducible assumption) | go_simp); have q5 := (hx2.cells (w.heap.size) (5) (by first | omega | (simp <;> omega))).trans (show _ = some (.int .i64 e) by first | (with_reducible assumption) | go_simp); have q6 := (hx2.cells (w.heap.size) (6) (by first | omega | (simp <;> omega))).trans (show _ = some (.int .i64 mn) by first | (with_reducible assumption) | go_simp))
                | (go_at_call 53; (with_reducible refine (HN2.out _ extA).mono ?_); rintro e' w4 ⟨rfl, hx4⟩; have hz4 := hx4.size; (try simp at hz4); have hb4_0 : w.heap.size < w4.heap.size := (by omega); have s0 := (hx4.cells (w.heap.size) (0) (by first | omega | (simp <;> omega))).trans (show _ = some (.int .i64 2) by first | (with_reducible assumption) | go_simp); have s1 := (hx4.cells (w.heap.size) (1) (by first | omega | (simp <;> omega))).trans (show _ = some (.slice a1 n1 c1) by first | (with_reducible assumption) | go_simp); have s2 := (hx4.cells (w.heap.size) (2) (by first | omega | (simp <;> omega))).trans (show _ = some (.int .i64 c) by first | (with_reducible assumption) | go_simp); have s3 := (hx4.cells (w.heap.size) (3) (by first | omega | (simp <;> omega))).trans (show _ = some (.string s) by first | (with_reducible assumption) | go_simp); have s4 := (hx4.cells (w.heap.size) (4) (by first | omega | (simp <;> omega))).trans (show _ = some (.slice a2 n2 c2) by first | (with_reducible assumption) | go_simp); have s5 := (hx4.cells (w.heap.size) (5) (by first | omega | (simp <;> omega))).trans (show _ = some (.int .i64 e) by first | (with_reducible assumption) | go_simp); have s6 := (hx4.cells (w.heap.size) (6) (by first | omega | (simp <;> omega))).trans (show _ = some (.int .i64 mn) by first | (with_reducible assumption) | go_simp))
                | (go_at_call 53; (with_reducible refine (HN1.out _ extA).mono ?_); rintro e' w3 ⟨rfl, hx3⟩; have hz3 := hx3.size; (try simp at hz3); have hb3_0 : w.heap.size < w3.heap.size := (by omega); have r0 := (hx3.cells (w.heap.size) (0) (by first | omega | (simp <;> omega))).trans (show _ = some (.int .i64 2) by first | (with_reducible assumption) | go_simp); have r1 := (hx3.cells (w.heap.size) (1) (by first | omega | (simp <;> omega))).trans (show _ = some (.slice a1 n1 c1) by first | (with_reducible assumption) | go_simp); have r2 := (hx3.cells (w.heap.size) (2) (by first | omega | (simp <;> omega))).trans (show _ = some (.int .i64 c) by first | (with_reducible assumption) | go_simp); have r3 := (hx3.cells (w.heap.size) (3) (by first | omega | (simp <;> omega))).trans (show _ = some (.string s) by first | (with_reducible assumption) | go_simp); have r4 := (hx3.cells (w.heap.size) (4) (by first | omega | (simp <;> omega))).trans (show _ = some (.slice a2 n2 c2) by first | (with_reducible assumption) | go_simp); have r5 := (hx3.cells (w.heap.size) (5) (by first | omega | (simp <;> omega))).trans (show _ = some (.int .i64 e) by first | (with_reducible assumption) | go_simp); have r6 := (hx3.cells (w.heap.size) (6) (by first | omega | (simp <;> omega))).trans (show _ = some (.int .i64 mn) by first | (with_reducible assumption) | go_simp))
                | (go_at_call 55; (with_reducible refine (HX.out _ extA).mono ?_); rintro e' w5 ⟨cs5, rfl, hm5, hx5⟩; obtain ⟨v5, rfl, hv5, _⟩ := hm5; obtain ⟨a5, n5, c5, rfl⟩ := hv5.slice; clear hv5)
                | (go_at_call 30; (with_reducible refine (between_any _ _ _ _).mono ?_); rintro e' w' ⟨rfl, rfl⟩))
              go_ret
              exact ⟨rfl, extA⟩
          · rw [checkD_take_form k1 rfl H0.out (.inr (bytes_cons h1))]
            have t1 : s.toList.isEmpty = false := empty_no h1
            clear k1 h1
            go_enter Try.func31, Try.ntmps31
            go_wp2_with (first
              | (go_at_call 52; (with_reducible refine (HR.out _ extA).mono ?_); rintro e' w1 ⟨rfl, hx1⟩; have hz1 := hx1.size; (try simp at hz1); have hb1_0 : w.heap.size < w1.heap.size := (by omega); have p0 := (hx1.cells (w.heap.size) (0) (by first | omega | (simp <;> omega))).trans (show _ = some (.int .i64 2) by first | (with_reducible assumption) | go_simp); have p1 := (hx1.cells (w.heap.size) (1) (by first | omega | (simp <;> omega))).trans (show _ = some (.slice a1 n1 c1) by first | (with_reducible assumption) | go_simp); have p2 := (hx1.cells (w.heap.size) (2) (by first | omega | (simp <;> omega))).trans (show _ = some (.int .i64 c) by first | (with_reducible assumption) | go_simp); have p3 := (hx1.cells (w.heap.size) (3) (by first | omega | (simp <;> omega))).trans (show _ = some (.string s) by first | (with_reducible assumption) | go_simp); have p4 := (hx1.cells (w.heap.size) (4) (by first | omega | (simp <;> omega))).trans (show _ = some (.slice a2 n2 c2) by first | (with_reducible assumption) | go_simp); have p5 := (hx1.cells (w.heap.size) (5) (by first | omega | (simp <;> omega))).trans (show _ = some (.int .i64 e) by first | (with_reducible assumption) | go_simp); have p6 := (hx1.cells (w.heap.size) (6) (by first | omega | (simp <;> omega))).trans (show _ = some (.int .i64 mn) by first | (with_reducible assumption) | go_simp))
              | (go_at_call 54; (with_reducible refine (HK.out _ extA).mono ?_); rintro e' w2 ⟨rfl, hx2⟩; have hz2 := hx2.size; (try simp at hz2); have hb2_0 : w.heap.size < w2.heap.size := (by omega); have q0 := (hx2.cells (w.heap.size) (0) (by first | omega | (simp <;> omega))).trans (show _ = some (.int .i64 2) by first | (with_reducible assumption) | go_simp); have q1 := (hx2.cells (w.heap.size) (1) (by first | omega | (simp <;> omega))).trans (show _ = some (.slice a1 n1 c1) by first | (with_reducible assumption) | go_simp); have q2 := (hx2.cells (w.heap.size) (2) (by first | omega | (simp <;> omega))).trans (show _ = some (.int .i64 c) by first | (with_reducible assumption) | go_simp); have q3 := (hx2.cells (w.heap.size) (3) (by first | omega | (simp <;> omega))).trans (show _ = some (.string s) by first | (with_reducible assumption) | go_simp); have q4 := (hx2.cells (w.heap.size) (4) (by first | omega | (simp <;> omega))).trans (show _ = some (.slice a2 n2 c2) by first | (with_reducible assumption) | go_simp); have q5 := (hx2.cells (w.heap.size) (5) (by first | omega | (simp <;> omega))).trans (show _ = some (.int .i64 e) by first | (with_reducible assumption) | go_simp); have q6 := (hx2.cells (w.heap.size) (6) (by first | omega | (simp <;> omega))).trans (show _ = some (.int .i64 mn) by first | (with_reducible assumption) | go_simp))
              | (go_at_call 53; (with_reducible refine (HN2.out _ extA).mono ?_); rintro e' w4 ⟨rfl, hx4⟩; have hz4 := hx4.size; (try simp at hz4); have hb4_0 : w.heap.size < w4.heap.size := (by omega); have s0 := (hx4.cells (w.heap.size) (0) (by first | omega | (simp <;> omega))).trans (show _ = some (.int .i64 2) by first | (with_reducible assumption) | go_simp); have s1 := (hx4.cells (w.heap.size) (1) (by first | omega | (simp <;> omega))).trans (show _ = some (.slice a1 n1 c1) by first | (with_reducible assumption) | go_simp); have s2 := (hx4.cells (w.heap.size) (2) (by first | omega | (simp <;> omega))).trans (show _ = some (.int .i64 c) by first | (with_reducible assumption) | go_simp); have s3 := (hx4.cells (w.heap.size) (3) (by first | omega | (simp <;> omega))).trans (show _ = some (.string s) by first | (with_reducible assumption) | go_simp); have s4 := (hx4.cells (w.heap.size) (4) (by first | omega | (simp <;> omega))).trans (show _ = some (.slice a2 n2 c2) by first | (with_reducible assumption) | go_simp); have s5 := (hx4.cells (w.heap.size) (5) (by first | omega | (simp <;> omega))).trans (show _ = some (.int .i64 e) by first | (with_reducible assumption) | go_simp); have s6 := (hx4.cells (w.heap.size) (6) (by first | omega | (simp <;> omega))).trans (show _ = some (.int .i64 mn) by first | (with_reducible assumption) | go_simp))
              | (go_at_call 53; (with_reducible refine (HN1.out _ extA).mono ?_); rintro e' w3 ⟨rfl, hx3⟩; have hz3 := hx3.size; (try simp at hz3); have hb3_0 : w.heap.size < w3.heap.size := (by omega); have r0 := (hx3.cells (w.heap.size) (0) (by first | omega | (simp <;> omega))).trans (show _ = some (.int .i64 2) by first | (with_reducible assumption) | go_simp); have r1 := (hx3.cells (w.heap.size) (1) (by first | omega | (simp <;> omega))).trans (show _ = some (.slice a1 n1 c1) by first | (with_reducible assumption) | go_simp); have r2 := (hx3.cells (w.heap.size) (2) (by first | omega | (simp <;> omega))).trans (show _ = some (.int .i64 c) by first | (with_reducible assumption) | go_simp); have r3 := (hx3.cells (w.heap.size) (3) (by first | omega | (simp <;> omega))).trans (show _ = some (.string s) by first | (with_reducible assumption) | go_simp); have r4 := (hx3.cells (w.heap.size) (4) (by first | omega | (simp <;> omega))).trans (show _ = some (.slice a2 n2 c2) by first | (with_reducible assumption) | go_simp); have r5 := (hx3.cells (w.heap.size) (5) (by first | omega | (simp <;> omega))).trans (show _ = some (.int .i64 e) by first | (with_reducible assumption) | go_simp); have r6 := (hx3.cells (w.heap.size) (6) (by first | omega | (simp <;> omega))).trans (show _ = some (.int .i64 mn) by first | (with_reducible assumption) | go_simp))
              | (go_at_call 55; (with_reducible refine (HX.out _ extA).mono ?_); rintro e' w5 ⟨cs5, rfl, hm5, hx5⟩; obtain ⟨v5, rfl, hv5, _⟩ := hm5; obtain ⟨a5, n5, c5, rfl⟩ := hv5.slice; clear hv5)
              | (go_at_call 30; (with_reducible refine (between_any _ _ _ _).mono ?_); rintro e' w' ⟨rfl, rfl⟩))
            go_ret
            exact ⟨rfl, extA⟩
      · rw [checkD_take_bad k1 rfl h0]
        simp only
        have t1 : (checkM (m, e) != 0) = true := by simpa using h0
        generalize checkM (m, e) = r at *
        clear h0 k1
        go_enter Try.func31, Try.ntmps31
        go_wp2_with (first
          | (go_at_call 52; (with_reducible refine (HR.out _ extA).mono ?_); rintro e' w1 ⟨rfl, hx1⟩; have hz1 := hx1.size; (try simp at hz1); have hb1_0 : w.heap.size < w1.heap.size := (by omega); have p0 := (hx1.cells (w.heap.size) (0) (by first | omega | (simp <;> omega))).trans (show _ = some (.int .i64 2) by first | (with_reducible assumption) | go_simp); have p1 := (hx1.cells (w.heap.size) (1) (by first | omega | (simp <;> omega))).trans (show _ = some (.slice a1 n1 c1) by first | (with_reducible assumption) | go_simp); have p2 := (hx1.cells (w.heap.size) (2) (by first | omega | (simp <;> omega))).trans (show _ = some (.int .i64 c) by first | (with_reducible assumption) | go_simp); have p3 := (hx1.cells (w.heap.size) (3) (by first | omega | (simp <;> omega))).trans (show _ = some (.string s) by first | (with_reducible assumption) | go_simp); have p4 := (hx1.cells (w.heap.size) (4) (by first | omega | (simp <;> omega))).trans (show _ = some (.slice a2 n2 c2) by first | (with_reducible assumption) | go_simp); have p5 := (hx1.cells (w.heap.size) (5) (by first | omega | (simp <;> omega))).trans (show _ = some (.int .i64 e) by first | (with_reducible assumption) | go_simp); have p6 := (hx1.cells (w.heap.size) (6) (by first | omega | (simp <;> omega))).trans (show _ = some (.int .i64 mn) by first | (with_reducible assumption) | go_simp))
          | (go_at_call 54; (with_reducible refine (HK.out _ extA).mono ?_); rintro e' w2 ⟨rfl, hx2⟩; have hz2 := hx2.size; (try simp at hz2); have hb2_0 : w.heap.size < w2.heap.size := (by omega); have q0 := (hx2.cells (w.heap.size) (0) (by first | omega | (simp <;> omega))).trans (show _ = some (.int .i64 2) by first | (with_reducible assumption) | go_simp); have q1 := (hx2.cells (w.heap.size) (1) (by first | omega | (simp <;> omega))).trans (show _ = some (.slice a1 n1 c1) by first | (with_reducible assumption) | go_simp); have q2 := (hx2.cells (w.heap.size) (2) (by first | omega | (simp <;> omega))).trans (show _ = some (.int .i64 c) by first | (with_reducible assumption) | go_simp); have q3 := (hx2.cells (w.heap.size) (3) (by first | omega | (simp <;> omega))).trans (show _ = some (.string s) by first | (with_reducible assumption) | go_simp); have q4 := (hx2.cells (w.heap.size) (4) (by first | omega | (simp <;> omega))).trans (show _ = some (.slice a2 n2 c2) by first | (with_reducible assumption) | go_simp); have q5 := (hx2.cells (w.heap.size) (5) (by first | omega | (simp <;> omega))).trans (show _ = some (.int .i64 e) by first | (with_reducible assumption) | go_simp); have q6 := (hx2.cells (w.heap.size) (6) (by first | omega | (simp <;> omega))).trans (show _ = some (.int .i64 mn) by first | (with_reducible assumption) | go_simp))
          | (go_at_call 53; (with_reducible refine (HN2.out _ extA).mono ?_); rintro e' w4 ⟨rfl, hx4⟩; have hz4 := hx4.size; (try simp at hz4); have hb4_0 : w.heap.size < w4.heap.size := (by omega); have s0 := (hx4.cells (w.heap.size) (0) (by first | omega | (simp <;> omega))).trans (show _ = some (.int .i64 2) by first | (with_reducible assumption) | go_simp); have s1 := (hx4.cells (w.heap.size) (1) (by first | omega | (simp <;> omega))).trans (show _ = some (.slice a1 n1 c1) by first | (with_reducible assumption) | go_simp); have s2 := (hx4.cells (w.heap.size) (2) (by first | omega | (simp <;> omega))).trans (show _ = some (.int .i64 c) by first | (with_reducible assumption) | go_simp); have s3 := (hx4.cells (w.heap.size) (3) (by first | omega | (simp <;> omega))).trans (show _ = some (.string s) by first | (with_reducible assumption) | go_simp); have s4 := (hx4.cells (w.heap.size) (4) (by first | omega | (simp <;> omega))).trans (show _ = some (.slice a2 n2 c2) by first | (with_reducible assumption) | go_simp); have s5 := (hx4.cells (w.heap.size) (5) (by first | omega | (simp <;> omega))).trans (show _ = some (.int .i64 e) by first | (with_reducible assumption) | go_simp); have s6 := (hx4.cells (w.heap.size) (6) (by first | omega | (simp <;> omega))).trans (show _ = some (.int .i64 mn) by first | (with_reducible assumption) | go_simp))
          | (go_at_call 53; (with_reducible refine (HN1.out _ extA).mono ?_); rintro e' w3 ⟨rfl, hx3⟩; have hz3 := hx3.size; (try simp at hz3); have hb3_0 : w.heap.size < w3.heap.size := (by omega); have r0 := (hx3.cells (w.heap.size) (0) (by first | omega | (simp <;> omega))).trans (show _ = some (.int .i64 2) by first | (with_reducible assumption) | go_simp); have r1 := (hx3.cells (w.heap.size) (1) (by first | omega | (simp <;> omega))).trans (show _ = some (.slice a1 n1 c1) by first | (with_reducible assumption) | go_simp); have r2 := (hx3.cells (w.heap.size) (2) (by first | omega | (simp <;> omega))).trans (show _ = some (.int .i64 c) by first | (with_reducible assumption) | go_simp); have r3 := (hx3.cells (w.heap.size) (3) (by first | omega | (simp <;> omega))).trans (show _ = some (.string s) by first | (with_reducible assumption) | go_simp); have r4 := (hx3.cells (w.heap.size) (4) (by first | omega | (simp <;> omega))).trans (show _ = some (.slice a2 n2 c2) by first | (with_reducible assumption) | go_simp); have r5 := (hx3.cells (w.heap.size) (5) (by first | omega | (simp <;> omega))).trans (show _ = some (.int .i64 e) by first | (with_reducible assumption) | go_simp); have r6 := (hx3.cells (w.heap.size) (6) (by first | omega | (simp <;> omega))).trans (show _ = some (.int .i64 mn) by first | (with_reducible assumption) | go_simp))
          | (go_at_call 55; (with_reducible refine (HX.out _ extA).mono ?_); rintro e' w5 ⟨cs5, rfl, hm5, hx5⟩; obtain ⟨v5, rfl, hv5, _⟩ := hm5; obtain ⟨a5, n5, c5, rfl⟩ := hv5.slice; clear hv5)
          | (go_at_call 30; (with_reducible refine (between_any _ _ _ _).mono ?_); rintro e' w' ⟨rfl, rfl⟩))
        go_ret
        exact ⟨rfl, extA⟩
    · rw [checkD_kind k1 k2]
      have t1 : (kd == 2) = false := by simpa using k2
      have t2 : (kd != 2) = true := by simpa using k2
      clear k1 k2
      go_enter Try.func31, Try.ntmps31
      go_wp2_with (first
        | (go_at_call 52; (with_reducible refine (HR.out _ extA).mono ?_); rintro e' w1 ⟨rfl, hx1⟩; have hz1 := hx1.size; (try simp at hz1); have hb1_0 : w.heap.size < w1.heap.size := (by omega); have p0 := (hx1.cells (w.heap.size) (0) (by first | omega | (simp <;> omega))).trans (show _ = some (.int .i64 kd) by first | (with_reducible assumption) | go_simp); have p1 := (hx1.cells (w.heap.size) (1) (by first | omega | (simp <;> omega))).trans (show _ = some (.slice a1 n1 c1) by first | (with_reducible assumption) | go_simp); have p2 := (hx1.cells (w.heap.size) (2) (by first | omega | (simp <;> omega))).trans (show _ = some (.int .i64 c) by first | (with_reducible assumption) | go_simp); have p3 := (hx1.cells (w.heap.size) (3) (by first | omega | (simp <;> omega))).trans (show _ = some (.string s) by first | (with_reducible assumption) | go_simp); have p4 := (hx1.cells (w.heap.size) (4) (by first | omega | (simp <;> omega))).trans (show _ = some (.slice a2 n2 c2) by first | (with_reducible assumption) | go_simp); have p5 := (hx1.cells (w.heap.size) (5) (by first | omega | (simp <;> omega))).trans (show _ = some (.int .i64 e) by first | (with_reducible assumption) | go_simp); have p6 := (hx1.cells (w.heap.size) (6) (by first | omega | (simp <;> omega))).trans (show _ = some (.int .i64 mn) by first | (with_reducible assumption) | go_simp))
        | (go_at_call 54; (with_reducible refine (HK.out _ extA).mono ?_); rintro e' w2 ⟨rfl, hx2⟩; have hz2 := hx2.size; (try simp at hz2); have hb2_0 : w.heap.size < w2.heap.size := (by omega); have q0 := (hx2.cells (w.heap.size) (0) (by first | omega | (simp <;> omega))).trans (show _ = some (.int .i64 kd) by first | (with_reducible assumption) | go_simp); have q1 := (hx2.cells (w.heap.size) (1) (by first | omega | (simp <;> omega))).trans (show _ = some (.slice a1 n1 c1) by first | (with_reducible assumption) | go_simp); have q2 := (hx2.cells (w.heap.size) (2) (by first | omega | (simp <;> omega))).trans (show _ = some (.int .i64 c) by first | (with_reducible assumption) | go_simp); have q3 := (hx2.cells (w.heap.size) (3) (by first | omega | (simp <;> omega))).trans (show _ = some (.string s) by first | (with_reducible assumption) | go_simp); have q4 := (hx2.cells (w.heap.size) (4) (by first | omega | (simp <;> omega))).trans (show _ = some (.slice a2 n2 c2) by first | (with_reducible assumption) | go_simp); have q5 := (hx2.cells (w.heap.size) (5) (by first | omega | (simp <;> omega))).trans (show _ = some (.int .i64 e) by first | (with_reducible assumption) | go_simp); have q6 := (hx2.cells (w.heap.size) (6) (by first | omega | (simp <;> omega))).trans (show _ = some (.int .i64 mn) by first | (with_reducible assumption) | go_simp))
        | (go_at_call 53; (with_reducible refine (HN2.out _ extA).mono ?_); rintro e' w4 ⟨rfl, hx4⟩; have hz4 := hx4.size; (try simp at hz4); have hb4_0 : w.heap.size < w4.heap.size := (by omega); have s0 := (hx4.cells (w.heap.size) (0) (by first | omega | (simp <;> omega))).trans (show _ = some (.int .i64 kd) by first | (with_reducible assumption) | go_simp); have s1 := (hx4.cells (w.heap.size) (1) (by first | omega | (simp <;> omega))).trans (show _ = some (.slice a1 n1 c1) by first | (with_reducible assumption) | go_simp); have s2 := (hx4.cells (w.heap.size) (2) (by first | omega | (simp <;> omega))).trans (show _ = some (.int .i64 c) by first | (with_reducible assumption) | go_simp); have s3 := (hx4.cells (w.heap.size) (3) (by first | omega | (simp <;> omega))).trans (show _ = some (.string s) by first | (with_reducible assumption) | go_simp); have s4 := (hx4.cells (w.heap.size) (4) (by first | omega | (simp <;> omega))).trans (show _ = some (.slice a2 n2 c2) by first | (with_reducible assumption) | go_simp); have s5 := (hx4.cells (w.heap.size) (5) (by first | omega | (simp <;> omega))).trans (show _ = some (.int .i64 e) by first | (with_reducible assumption) | go_simp); have s6 := (hx4.cells (w.heap.size) (6) (by first | omega | (simp <;> omega))).trans (show _ = some (.int .i64 mn) by first | (with_reducible assumption) | go_simp))
        | (go_at_call 53; (with_reducible refine (HN1.out _ extA).mono ?_); rintro e' w3 ⟨rfl, hx3⟩; have hz3 := hx3.size; (try simp at hz3); have hb3_0 : w.heap.size < w3.heap.size := (by omega); have r0 := (hx3.cells (w.heap.size) (0) (by first | omega | (simp <;> omega))).trans (show _ = some (.int .i64 kd) by first | (with_reducible assumption) | go_simp); have r1 := (hx3.cells (w.heap.size) (1) (by first | omega | (simp <;> omega))).trans (show _ = some (.slice a1 n1 c1) by first | (with_reducible assumption) | go_simp); have r2 := (hx3.cells (w.heap.size) (2) (by first | omega | (simp <;> omega))).trans (show _ = some (.int .i64 c) by first | (with_reducible assumption) | go_simp); have r3 := (hx3.cells (w.heap.size) (3) (by first | omega | (simp <;> omega))).trans (show _ = some (.string s) by first | (with_reducible assumption) | go_simp); have r4 := (hx3.cells (w.heap.size) (4) (by first | omega | (simp <;> omega))).trans (show _ = some (.slice a2 n2 c2) by first | (with_reducible assumption) | go_simp); have r5 := (hx3.cells (w.heap.size) (5) (by first | omega | (simp <;> omega))).trans (show _ = some (.int .i64 e) by first | (with_reducible assumption) | go_simp); have r6 := (hx3.cells (w.heap.size) (6) (by first | omega | (simp <;> omega))).trans (show _ = some (.int .i64 mn) by first | (with_reducible assumption) | go_simp))
        | (go_at_call 55; (with_reducible refine (HX.out _ extA).mono ?_); rintro e' w5 ⟨cs5, rfl, hm5, hx5⟩; obtain ⟨v5, rfl, hv5, _⟩ := hm5; obtain ⟨a5, n5, c5, rfl⟩ := hv5.slice; clear hv5)
        | (go_at_call 30; (with_reducible refine (between_any _ _ _ _).mono ?_); rintro e' w' ⟨rfl, rfl⟩))
      go_ret
      exact ⟨rfl, extA⟩
end Go.Proofs.Ytiladkinndgeaaa
/- Lists of numbers: as they lie; is there a bad one? -/
namespace Go.Proofs.Ytiladkinndgeaaa
open Go Go.RowKit Go.BigFrame Cp

def badI (n : Int) : Bool := !inB n 0 500
theorem int_at {F : Nat → Prop} {w : World} {a : Option Addr} {n cap : Nat} {q : List Int} (h : RSl RInt 1 F w (.slice a n cap) q) {i : Nat} (hi : i < n) :
    ∃ b o x, a = some ⟨b, o, none⟩ ∧ b < w.heap.size ∧ q[i]? = some x ∧ I64 x ∧ w.cell? ⟨b, o + i, none⟩ = some (.int .i64 x) := by
  obtain ⟨b, o, x, cs, e1, e2, e3, _, e4, ⟨rfl, i1⟩⟩ := h.at_ hi
  exact ⟨b, o, x, e1, e2, e3, i1, by simpa using e4 0 _ rfl⟩
theorem withinW_any (n a b : Int) (w : World) : Calls Try.prog 40 #[.int .i64 n, .int .i64 a, .int .i64 b] w fun e w' => e = .returned (.bool (inB n a b)) ∧ w = w' := by
  go_enter Try.func40, Try.ntmps40
  go_wp2
  all_goals go_ret
  all_goals first | exact ⟨rb (inB_no ‹_›), rfl⟩ | exact ⟨rb (inB_yes ‹_›), rfl⟩
theorem badW_any (n : Int) (w : World) : Calls Try.prog 42 #[.int .i64 n] w fun e w' => e = .returned (.bool (badI n)) ∧ w = w' := by
  go_enter Try.func42, Try.ntmps42
  go_wp2_with (go_at_call 40; refine (withinW_any _ _ _ _).mono ?_; rintro e w' ⟨rfl, rfl⟩)
  go_ret
  exact ⟨rfl, rfl⟩
set_option maxRecDepth 100000 in
theorem idxIntW_any {F : Nat → Prop} {w : World} {v : Value} {l : List Int} (h : RSl RInt 1 F w v l) :
    Calls Try.prog 59 #[v, .func (.func 42) #[] #[]] w (IsIdx (l.any badI) w) := by
  obtain ⟨a1, n1, c1, rfl⟩ := h.slice
  obtain ⟨rfl, k1, k1'⟩ := h.len
  unfold maxLen at k1'
  have q1 : l.length ≤ 9223372036854775807 := by omega
  clear k1 k1'
  have HL := Lib.hid h
  clear h
  go_enter Try.func59, Try.ntmps59
  go_wp2
  go_loopw [8] (fun i wr => ∃ k : Nat, k ≤ l.length ∧ i = .int .i64 k ∧ Hid ((l.take k).any badI = false) ∧ Ext w wr) (fun i _ => l.length - (intOf i).toNat)
  case atStart => exact ⟨0, by omega, rfl, Lib.hid (by simp), ext_refl _⟩
  case round =>
    obtain ⟨k, hk1, rfl, ho, hx⟩ := hrel
    have HX := Lib.hid hx
    clear hx
    by_cases h1 : k < l.length
    · obtain ⟨b1, o1, x1, rfl, hb1, e1, _, ca⟩ := int_at (HL.out.ext gInt HX.out) h1
      have HA := Lib.hid (anyp_step (p := badI) e1)
      clear e1 hb1
      cases g1 : badI x1 with
      | true =>
        have HC := Lib.hid (anyp_of_take (k := k + 1) (by rw [HA.out, ho.out, g1]; rfl))
        go_wp2_with (go_at_call 42; refine (badW_any _ _).mono ?_; rintro e w1 ⟨rfl, rfl⟩)
        go_ret
        exact ⟨k, by rw [HC.out]; simp, rfl, HX.out⟩
      | false =>
        have HD := Lib.hid (show (l.take (k + 1)).any badI = false by rw [HA.out, ho.out, g1]; rfl)
        go_wp2_with (go_at_call 42; refine (badW_any _ _).mono ?_; rintro e w1 ⟨rfl, rfl⟩)
        go_roundw
        case rel => exact ⟨k + 1, by omega, by go_num, HD, HX.out⟩
        case measure => simp [intOf]; omega
    · have hk : k = l.length := by omega
      subst hk
      have ho' := ho.out
      rw [List.take_of_length_le (Nat.le_refl _)] at ho'
      have HO := Lib.hid ho'
      clear ho ho'
      go_wp2
      go_ret
      exact ⟨-1, by rw [HO.out]; rfl, rfl, HX.out⟩
theorem containsIntW_any {F : Nat → Prop} {w : World} {v : Value} {l : List Int} (h : RSl RInt 1 F w v l) :
    Calls Try.prog 41 #[v, .func (.func 42) #[] #[]] w fun e w' => e = .returned (.bool (l.any badI)) ∧ Ext w w' := by
  have H := Lib.hid (idxIntW_any h)
  obtain ⟨a1, n1, c1, rfl⟩ := h.slice
  clear h
  go_enter Try.func41, Try.ntmps41
  go_wp2_with (go_at_call 59; refine H.out.mono ?_; rintro e w1 ⟨n, hn, rfl, hx1⟩; have HN := Lib.hid hn; clear hn)
  go_ret
  exact ⟨rb HN.out, hx1⟩

end Go.Proofs.Ytiladkinndgeaaa
/- What is wrong with a note: step by step. -/
namespace Go.Proofs.Ytiladkinndgeaaa
open Go Go.RowKit Go.BigFrame Cp

def checkN (n : No) : Int :=
  if inB n.site 0 4 = false ∨ inB n.number 1 500 = false then 3
  else if n.needs.length ≠ 5 then 1
  else if n.needs.any badI = true then 3
  else if n.needs[n.site.toNat]?.getD 0 ≠ n.number - 1 then 4
  else if n.deeds.length = 0 then 1
  else if 20 < n.deeds.length then 2
  else checkDL n.deeds
section
variable {n : No}
theorem checkN_site (h : inB n.site 0 4 = false) : checkN n = 3 := by unfold checkN; rw [if_pos (.inl h)]
theorem checkN_number (h : inB n.number 1 500 = false) : checkN n = 3 := by unfold checkN; rw [if_pos (.inr h)]
theorem checkN_len (h : inB n.site 0 4 = true) (h2 : inB n.number 1 500 = true) (h3 : n.needs.length ≠ 5) : checkN n = 1 := by unfold checkN; rw [if_neg (by rw [h, h2]; simp), if_pos h3]
theorem checkN_needs (h : inB n.site 0 4 = true) (h2 : inB n.number 1 500 = true) (h3 : n.needs.length = 5) (h4 : n.needs.any badI = true) : checkN n = 3 := by
  unfold checkN; rw [if_neg (by rw [h, h2]; simp), if_neg (by simpa using h3), if_pos h4]
theorem checkN_rest (h : inB n.site 0 4 = true) (h2 : inB n.number 1 500 = true) (h3 : n.needs.length = 5) (h4 : n.needs.any badI = false) : checkN n =
    if n.needs[n.site.toNat]?.getD 0 ≠ n.number - 1 then 4 else if n.deeds.length = 0 then 1 else if 20 < n.deeds.length then 2 else checkDL n.deeds := by
  unfold checkN; rw [if_neg (by rw [h, h2]; simp), if_neg (by simpa using h3), if_neg (by rw [h4]; simp)]
end
theorem site_nat {s : Int} (h : inB s 0 4 = true) : ∃ j : Nat, s = (j : Int) ∧ j < 5 := by
  unfold inB at h
  simp at h
  exact ⟨s.toNat, by omega, by omega⟩
theorem num_rng {s : Int} (h : inB s 1 500 = true) : 1 ≤ s ∧ s ≤ 500 := by
  unfold inB at h
  simpa using h
theorem rno_of {F : Nat → Prop} {w : World} {v u : Value} {s k : Int} {l : List Int} {q : List De} (hs : I64 s) (hk : I64 k) (hl : RSl RInt 1 F w v l) (hq : RSl RDe 7 F w u q) : RNo F w [.int .i64 s, .int .i64 k, v, u] ⟨s, k, l, q⟩ := ⟨v, u, rfl, hs, hk, hl, hq⟩
end Go.Proofs.Ytiladkinndgeaaa
/- Notes as bytes, plain: what they are, and how they are read, by the program and by the document. -/
namespace Go.Proofs.Ytiladkinndgeaaa
open Go Cp

def b8 (n : Int) : UInt8 := UInt8.ofNat (n % 256).toNat
def twoB (n : Int) : Tx := [b8 n, b8 (n / 256)]
def stpB (s : Stp) : Tx := [b8 s.1, b8 s.2]
def markB (m : Mk) : Tx := b8 m.1.length :: (m.1.flatMap stpB ++ twoB m.2)
def deedB (d : De) : Tx := if d.kind = 2 then b8 d.kind :: (markB d.mark ++ [b8 d.many]) else b8 d.kind :: (markB d.run.1 ++ (b8 d.run.2.length :: d.run.2))
def noteB (n : No) : Tx := b8 n.site :: (twoB n.number ++ (n.needs.flatMap twoB ++ (b8 n.deeds.length :: n.deeds.flatMap deedB)))
/-- what is left to read; was there too little, or something wrong? -/
abbrev PS := Tx × Bool
def takeP (n : Int) (r : PS) : Tx × PS := if (r.1.length : Int) < n then ([], ([], true)) else (r.1.take n.toNat, (r.1.drop n.toNat, r.2))
def leN : Tx → Int
  | [] => 0
  | c :: t => 256 * leN t + c.toNat
def numP (k : Nat) (r : PS) : Int × PS := (leN (takeP k r).1, (takeP k r).2)
def timesP {α : Type} (f : PS → α × PS) : Nat → PS → List α × PS
  | 0, r => ([], r)
  | n + 1, r => if r.2 = true then ([], r) else ((f r).1 :: (timesP f n (f r).2).1, (timesP f n (f r).2).2)
def stpP (r : PS) : Stp × PS := (((numP 1 r).1, (numP 1 (numP 1 r).2).1), (numP 1 (numP 1 r).2).2)
def markP (r : PS) : Mk × PS :=
  let p := timesP stpP (numP 1 r).1.toNat (numP 1 r).2
  ((p.1, (numP 2 p.2).1), (numP 2 p.2).2)
def deedP (r : PS) : De × PS :=
  let k := numP 1 r
  if k.1 = 1 then
    let m := markP k.2
    let n := numP 1 m.2
    let t := takeP n.1 n.2
    (⟨k.1, (m.1, t.1), ([], 0), 0⟩, t.2)
  else if k.1 = 2 then
    let m := markP k.2
    let n := numP 1 m.2
    (⟨k.1, (([], 0), []), m.1, n.1⟩, n.2)
  else (⟨k.1, (([], 0), []), ([], 0), 0⟩, (k.2.1, true))
def noteP' (m : Nat) (s : Tx) : No × PS :=
  let a := numP 1 (s, false)
  let b := numP 2 a.2
  let c := timesP (numP 2) m b.2
  let k := numP 1 c.2
  let d := timesP deedP k.1.toNat k.2
  (⟨a.1, b.1, c.1, d.1⟩, d.2)
def noteP (s : Tx) : No × PS := noteP' 5 s
def noNote : No := ⟨0, 0, [], []⟩
def decE (s : Tx) : Int := if (noteP s).2.2 = true ∨ (noteP s).2.1 ≠ [] then 1 else checkN (noteP s).1
def decV (s : Tx) : No := if decE s = 0 then (noteP s).1 else noNote
/-- the document's reader -/
def oneR (r : PS) : Int × PS := if r.2 = true ∨ r.1 = [] then (0, (r.1, true)) else ((r.1.headD 0).toNat, (r.1.tail, r.2))
def twoR (r : PS) : Int × PS := ((oneR r).1 + 256 * (oneR (oneR r).2).1, (oneR (oneR r).2).2)
def stpR (r : PS) : Stp × PS := (((oneR r).1, (oneR (oneR r).2).1), (oneR (oneR r).2).2)
def markR (r : PS) : Mk × PS :=
  let p := timesP stpR (oneR r).1.toNat (oneR r).2
  ((p.1, (twoR p.2).1), (twoR p.2).2)
def deedR (r : PS) : De × PS :=
  let k := oneR r
  if k.1 = 1 then
    let m := markR k.2
    let n := oneR m.2
    if n.2.2 = true ∨ (n.2.1.length : Int) < n.1 then (⟨k.1, (m.1, []), ([], 0), 0⟩, (n.2.1, true))
    else (⟨k.1, (m.1, n.2.1.take n.1.toNat), ([], 0), 0⟩, (n.2.1.drop n.1.toNat, n.2.2))
  else
    let m := markR (k.2.1, if k.1 = 2 then k.2.2 else true)
    let n := oneR m.2
    (⟨k.1, (([], 0), []), m.1, n.1⟩, n.2)
def manyR : Nat → PS → List Int × PS
  | 0, r => ([], r)
  | n + 1, r => ((twoR r).1 :: (manyR n (twoR r).2).1, (manyR n (twoR r).2).2)
def noteR' (m : Nat) (s : Tx) : No × PS :=
  let a := oneR (s, false)
  let b := twoR a.2
  let c := manyR m b.2
  let k := oneR c.2
  let d := timesP deedR k.1.toNat k.2
  (⟨a.1, b.1, c.1, d.1⟩, d.2)
def noteR (s : Tx) : No × PS := noteR' 5 s
/-- both are at one place -/
def EqS (r q : PS) : Prop := r.2 = q.2 ∧ (r.2 = false → r.1 = q.1)
def EqV {α : Type} (x y : α × PS) : Prop := EqS x.2 y.2 ∧ (x.2.2 = false → x.1 = y.1)
def Sticky {α : Type} (f : PS → α × PS) : Prop := ∀ r, r.2 = true → (f r).2.2 = true
def Agree {α : Type} (f g : PS → α × PS) : Prop := ∀ r q, EqS r q → EqV (f r) (g q)
section
variable {α : Type}
theorem take_sticky (n : Int) (r : PS) (h : r.2 = true) : (takeP n r).2.2 = true := by
  unfold takeP
  split
  · rfl
  · exact h
theorem num_sticky (k : Nat) : Sticky (numP k) := fun r h => take_sticky k r h
theorem one_sticky : Sticky oneR := fun r h => by unfold oneR; rw [if_pos (.inl h)]
theorem two_sticky : Sticky twoR := fun r h => one_sticky _ (one_sticky _ h)
theorem times_sticky {f : PS → α × PS} (n : Nat) (r : PS) (h : r.2 = true) : (timesP f n r).2.2 = true := by
  cases n with
  | zero => exact h
  | succ n => unfold timesP; rw [if_pos h]; exact h
theorem stp_sticky : Sticky stpP := fun r h => num_sticky _ _ (num_sticky _ _ h)
theorem mark_sticky : Sticky markP := fun r h => num_sticky _ _ (times_sticky _ _ (num_sticky _ _ h))
theorem deed_sticky : Sticky deedP := fun r h => by
  unfold deedP
  simp only
  split
  · exact take_sticky _ _ (num_sticky _ _ (mark_sticky _ (num_sticky _ _ h)))
  · split
    · exact num_sticky _ _ (mark_sticky _ (num_sticky _ _ h))
    · rfl
theorem eqv_bad {x y : α × PS} (h : x.2.2 = true) (k : y.2.2 = true) : EqV x y := ⟨⟨h.trans k.symm, fun e => by rw [h] at e; cases e⟩, fun e => by rw [h] at e; cases e⟩
theorem take1_nil {b : Bool} : takeP 1 ([], b) = ([], ([], true)) := by unfold takeP; rw [if_pos (by simp)]
theorem take1_cons {c : UInt8} {t : Tx} {b : Bool} : takeP 1 (c :: t, b) = ([c], (t, b)) := by unfold takeP; rw [if_neg (by simp; omega)]; simp
theorem one_agree : Agree (numP 1) oneR := by
  rintro ⟨t, b⟩ ⟨u, c⟩ ⟨h1, h2⟩
  simp only at h1 h2
  subst h1
  cases b with
  | true => exact eqv_bad (num_sticky _ _ rfl) (one_sticky _ rfl)
  | false =>
    obtain rfl := h2 rfl
    cases t with
    | nil => exact eqv_bad (by unfold numP; rw [show ((1 : Nat) : Int) = 1 from rfl, take1_nil]) (by unfold oneR; rw [if_pos (.inr rfl)])
    | cons x t =>
      unfold numP oneR
      rw [show ((1 : Nat) : Int) = 1 from rfl, take1_cons, if_neg (by simp)]
      exact ⟨⟨rfl, fun _ => rfl⟩, fun _ => by simp [leN]⟩
theorem take2_nil {b : Bool} : takeP 2 ([], b) = ([], ([], true)) := by unfold takeP; rw [if_pos (by simp)]
theorem take2_one {c : UInt8} {b : Bool} : takeP 2 ([c], b) = ([], ([], true)) := by unfold takeP; rw [if_pos (by simp)]
theorem take2_cons {c d : UInt8} {t : Tx} {b : Bool} : takeP 2 (c :: d :: t, b) = ([c, d], (t, b)) := by unfold takeP; rw [if_neg (by simp; omega)]; simp
theorem two_agree : Agree (numP 2) twoR := by
  rintro ⟨t, b⟩ ⟨u, c⟩ ⟨h1, h2⟩
  simp only at h1 h2
  subst h1
  cases b with
  | true => exact eqv_bad (num_sticky _ _ rfl) (two_sticky _ rfl)
  | false =>
    obtain rfl := h2 rfl
    match t with
    | [] => exact eqv_bad (by unfold numP; rw [show ((2 : Nat) : Int) = 2 from rfl, take2_nil]) (one_sticky _ (by unfold oneR; rw [if_pos (.inr rfl)]))
    | [x] =>
      refine eqv_bad (by unfold numP; rw [show ((2 : Nat) : Int) = 2 from rfl, take2_one]) ?_
      have e : oneR ([x], false) = ((x.toNat : Int), ([], false)) := by unfold oneR; rw [if_neg (by simp)]; rfl
      show (oneR (oneR ([x], false)).2).2.2 = true
      rw [e]
      unfold oneR
      rw [if_pos (.inr rfl)]
    | x :: y :: t =>
      have e : oneR (x :: y :: t, false) = ((x.toNat : Int), (y :: t, false)) := by unfold oneR; rw [if_neg (by simp)]; rfl
      have e2 : oneR (y :: t, false) = ((y.toNat : Int), (t, false)) := by unfold oneR; rw [if_neg (by simp)]; rfl
      unfold twoR numP
      rw [e]
      simp only
      rw [e2, show ((2 : Nat) : Int) = 2 from rfl, take2_cons]
      exact ⟨⟨rfl, fun _ => rfl⟩, fun _ => by simp only [leN]; omega⟩
theorem times_agree {f g : PS → α × PS} (h : Agree f g) (hs : Sticky f) : ∀ n, Agree (timesP f n) (timesP g n)
  | 0, r, q, e => ⟨e, fun _ => rfl⟩
  | n + 1, r, q, e => by
    by_cases hb : r.2 = true
    · exact eqv_bad (times_sticky _ _ hb) (times_sticky _ _ (e.1 ▸ hb))
    · have hq : ¬ q.2 = true := e.1 ▸ hb
      have h1 := h r q e
      have h2 := times_agree h hs n (f r).2 (g q).2 h1.1
      unfold timesP
      rw [if_neg hb, if_neg hq]
      refine ⟨h2.1, fun hf => ?_⟩
      simp only at hf
      have hn : (f r).2.2 = false := by
        cases hc : (f r).2.2 with
        | false => rfl
        | true => rw [times_sticky _ _ hc] at hf; cases hf
      show (f r).1 :: _ = (g q).1 :: _
      rw [h1.2 hn, h2.2 hf]
theorem good_of {f : PS → α × PS} (hs : Sticky f) {r : PS} (h : (f r).2.2 = false) : r.2 = false := by
  cases hc : r.2 with
  | false => rfl
  | true => rw [hs r hc] at h; cases h
theorem stp_agree : Agree stpP stpR := fun r q e => by
  have h1 := one_agree r q e
  have h2 := one_agree _ _ h1.1
  refine ⟨h2.1, fun hf => ?_⟩
  have h3 : (numP 1 r).2.2 = false := good_of (num_sticky 1) hf
  show ((numP 1 r).1, _) = ((oneR q).1, _)
  rw [h1.2 h3, h2.2 hf]
theorem bad_of {x y : α × PS} (h : EqV x y) (k : x.2.2 = true) : y.2.2 = true := h.1.1 ▸ k
theorem mark_agree : Agree markP markR := fun r q e => by
  have h1 := one_agree r q e
  cases hc : (numP 1 r).2.2 with
  | true =>
    have hq := bad_of h1 hc
    refine eqv_bad ?_ ?_
    · exact num_sticky _ _ (times_sticky _ _ hc)
    · exact two_sticky _ (times_sticky _ _ hq)
  | false =>
    have e1 := h1.2 hc
    have h2 := times_agree stp_agree stp_sticky (numP 1 r).1.toNat _ _ h1.1
    have h3 := two_agree _ _ h2.1
    unfold markR markP
    simp only
    rw [← e1]
    refine ⟨h3.1, fun hf => ?_⟩
    simp only at hf
    have h4 := good_of (num_sticky 2) hf
    show (_, _) = (_, _)
    rw [h2.2 h4, h3.2 hf]
theorem markR_sticky : Sticky markR := fun r h => two_sticky _ (times_sticky _ _ (one_sticky _ h))
theorem deed_agree : Agree deedP deedR := fun r q e => by
  have h1 := one_agree r q e
  cases hc : (numP 1 r).2.2 with
  | true =>
    have hq := bad_of h1 hc
    refine eqv_bad ?_ ?_
    · unfold deedP
      simp only
      split
      · exact take_sticky _ _ (num_sticky _ _ (mark_sticky _ hc))
      · split
        · exact num_sticky _ _ (mark_sticky _ hc)
        · rfl
    · unfold deedR
      simp only
      split
      · have hb : (oneR (markR (oneR q).2).2).2.2 = true := one_sticky _ (markR_sticky _ hq)
        rw [if_pos (.inl hb)]
      · refine one_sticky _ (markR_sticky _ ?_)
        show (if _ then _ else _) = true
        split
        · exact hq
        · rfl
  | false =>
    have e1 := h1.2 hc
    have hq : (oneR q).2.2 = false := h1.1.1 ▸ hc
    unfold deedP deedR
    simp only
    rw [← e1]
    by_cases k1 : (numP 1 r).1 = 1
    · rw [if_pos k1, if_pos k1]
      have h2 := mark_agree _ _ h1.1
      have h3 := one_agree _ _ h2.1
      cases hd : (numP 1 (markP (numP 1 r).2).2).2.2 with
      | true =>
        rw [if_pos (.inl (bad_of h3 hd))]
        exact eqv_bad (take_sticky _ _ hd) rfl
      | false =>
        have e3 := h3.2 hd
        have e2 := h2.2 (good_of (num_sticky 1) hd)
        have hs := h3.1.2 hd
        have hq3 : (oneR (markR (oneR q).2).2).2.2 = false := h3.1.1 ▸ hd
        rw [← e3, ← hs]
        unfold takeP
        by_cases hl : ((numP 1 (markP (numP 1 r).2).2).2.1.length : Int) < (numP 1 (markP (numP 1 r).2).2).1
        · rw [if_pos hl, if_pos (.inr hl)]
          exact eqv_bad rfl rfl
        · rw [if_neg hl, if_neg (by rw [hq3]; simp; omega)]
          exact ⟨⟨h3.1.1, fun _ => rfl⟩, fun _ => by rw [e2]⟩
    · rw [if_neg k1, if_neg k1]
      by_cases k2 : (numP 1 r).1 = 2
      · rw [if_pos k2]
        have ea : EqS (numP 1 r).2 ((oneR q).2.1, if (numP 1 r).1 = 2 then (oneR q).2.2 else true) := by
          rw [if_pos k2]; exact h1.1
        have h2 := mark_agree _ _ ea
        have h3 := one_agree _ _ h2.1
        rw [if_pos k2] at h3 h2 ⊢
        have g2 : (numP 1 (markP (numP 1 r).2).2).2.2 = false → (markP (numP 1 r).2).2.2 = false := good_of (num_sticky 1)
        generalize numP 1 (markP (numP 1 r).2).2 = n at *
        generalize oneR (markR ((oneR q).2.1, (oneR q).2.2)).2 = n' at *
        generalize markP (numP 1 r).2 = m at *
        generalize markR ((oneR q).2.1, (oneR q).2.2) = m' at *
        exact ⟨h3.1, fun hf => by
          have e2 := h2.2 (g2 hf)
          have e3 := h3.2 hf
          rw [e2, e3]⟩
      · rw [if_neg k2]
        refine eqv_bad rfl ?_
        refine one_sticky _ (markR_sticky _ ?_)
        show (if _ then _ else _) = true
        rw [if_neg k2]
theorem manyR_sticky : ∀ n, Sticky (manyR n)
  | 0, r, h => h
  | n + 1, r, h => manyR_sticky n _ (two_sticky _ h)
theorem many_agree : ∀ n, Agree (timesP (numP 2) n) (manyR n)
  | 0, r, q, e => ⟨e, fun _ => rfl⟩
  | n + 1, r, q, e => by
    by_cases hb : r.2 = true
    · exact eqv_bad (times_sticky _ _ hb) (manyR_sticky _ _ (e.1 ▸ hb))
    · have h1 := two_agree r q e
      have h2 := many_agree n _ _ h1.1
      unfold timesP manyR
      rw [if_neg hb]
      refine ⟨h2.1, fun hf => ?_⟩
      simp only at hf
      have hn : (numP 2 r).2.2 = false := by
        cases hc : (numP 2 r).2.2 with
        | false => rfl
        | true => rw [times_sticky _ _ hc] at hf; cases hf
      show _ :: _ = _ :: _
      rw [h1.2 hn, h2.2 hf]
end
theorem note_agree' (m : Nat) (s : Tx) : EqV (noteP' m s) (noteR' m s) := by
  have h1 := one_agree (s, false) (s, false) ⟨rfl, fun _ => rfl⟩
  have h2 := two_agree _ _ h1.1
  have h3 := many_agree m _ _ h2.1
  have h4 := one_agree _ _ h3.1
  have g3 : (numP 1 (timesP (numP 2) m (numP 2 (numP 1 (s, false)).2).2).2).2.2 = false → _ := good_of (num_sticky 1)
  have g2 : (timesP (numP 2) m (numP 2 (numP 1 (s, false)).2).2).2.2 = false → _ := good_of (f := timesP (numP 2) m) (times_sticky m)
  have g1 : (numP 2 (numP 1 (s, false)).2).2.2 = false → _ := good_of (num_sticky 2)
  unfold noteP' noteR'
  simp only
  generalize numP 1 (timesP (numP 2) m (numP 2 (numP 1 (s, false)).2).2).2 = k at *
  generalize oneR (manyR m (twoR (oneR (s, false)).2).2).2 = k' at *
  generalize timesP (numP 2) m (numP 2 (numP 1 (s, false)).2).2 = c at *
  generalize manyR m (twoR (oneR (s, false)).2).2 = c' at *
  generalize numP 2 (numP 1 (s, false)).2 = b at *
  generalize twoR (oneR (s, false)).2 = b' at *
  generalize numP 1 (s, false) = a at *
  generalize oneR (s, false) = a' at *
  cases hc : k.2.2 with
  | true => exact eqv_bad (times_sticky _ _ hc) (times_sticky _ _ (bad_of h4 hc))
  | false =>
    have e4 := h4.2 hc
    have h5 := times_agree deed_agree deed_sticky k.1.toNat _ _ h4.1
    rw [← e4]
    refine ⟨h5.1, fun hf => ?_⟩
    have c2 := g3 hc
    have c1 := g2 c2
    have c0 := g1 c1
    show No.mk _ _ _ _ = No.mk _ _ _ _
    rw [h1.2 c0, h2.2 c1, h3.2 c2, h5.2 hf]
theorem note_agree (s : Tx) : EqV (noteP s) (noteR s) := note_agree' 5 s
/-- read by the document: the same -/
theorem dec_same (s : Tx) : decE s = (if (noteR s).2.2 = true ∨ (noteR s).2.1 ≠ [] then 1 else checkN (noteR s).1) ∧ (decE s = 0 → decV s = (noteR s).1) := by
  have h := note_agree s
  unfold decV decE
  cases hc : (noteP s).2.2 with
  | true =>
    rw [if_pos (.inl rfl), if_pos (.inl (bad_of h hc))]
    exact ⟨rfl, fun e => by cases e⟩
  | false =>
    have hq : (noteR s).2.2 = false := h.1.1 ▸ hc
    rw [hq, ← h.2 hc, ← h.1.2 hc]
    exact ⟨rfl, fun e => by rw [if_pos e]⟩
theorem b8_nat {k : Int} (h0 : 0 ≤ k) (h1 : k < 256) : ((b8 k).toNat : Int) = k := by
  unfold b8
  rw [UInt8.toNat_ofNat']
  omega
theorem b8_of (c : UInt8) : b8 (c.toNat : Int) = c := by
  have h := c.toNat_lt
  unfold b8
  rw [show ((c.toNat : Int) % 256).toNat = c.toNat by omega]
  exact UInt8.ofNat_toNat
theorem num1_cons (c : UInt8) (t : Tx) (b : Bool) : numP 1 (c :: t, b) = ((c.toNat : Int), (t, b)) := by
  unfold numP
  rw [show ((1 : Nat) : Int) = 1 from rfl, take1_cons]
  simp [leN]
theorem num2_cons (c d : UInt8) (t : Tx) (b : Bool) : numP 2 (c :: d :: t, b) = (256 * (d.toNat : Int) + c.toNat, (t, b)) := by
  unfold numP
  rw [show ((2 : Nat) : Int) = 2 from rfl, take2_cons]
  simp [leN]
theorem num1_enc {k : Int} (h0 : 0 ≤ k) (h1 : k < 256) (t : Tx) : numP 1 (b8 k :: t, false) = (k, (t, false)) := by rw [num1_cons, b8_nat h0 h1]
theorem num2_enc {k : Int} (h0 : 0 ≤ k) (h1 : k < 65536) (t : Tx) : numP 2 (twoB k ++ t, false) = (k, (t, false)) := by
  show numP 2 (b8 k :: b8 (k / 256) :: t, false) = _
  rw [num2_cons, b8_nat (k := k / 256) (by omega) (by omega)]
  have : ((b8 k).toNat : Int) = k % 256 := by unfold b8; rw [UInt8.toNat_ofNat']; omega
  rw [this, show 256 * (k / 256) + k % 256 = k by omega]
section
variable {α : Type}
theorem times_enc {f : PS → α × PS} {e : α → Tx} : ∀ {l : List α}, (∀ x ∈ l, ∀ t, f (e x ++ t, false) = (x, (t, false))) → ∀ t, timesP f l.length (l.flatMap e ++ t, false) = (l, (t, false))
  | [], _, t => rfl
  | x :: l, h, t => by
    have h1 := h x (List.mem_cons_self ..) (l.flatMap e ++ t)
    have h2 := times_enc (fun y hy => h y (List.mem_cons_of_mem _ hy)) t
    rw [List.flatMap_cons, List.append_assoc]
    show timesP f (l.length + 1) _ = _
    unfold timesP
    rw [if_neg (by simp), h1]
    simp only
    rw [h2]
theorem times_dec {f : PS → α × PS} {e : α → Tx} (hs : Sticky f) (hf : ∀ r, (f r).2.2 = false → r.1 = e (f r).1 ++ (f r).2.1) : ∀ (n : Nat) (r : PS), (timesP f n r).2.2 = false →
    r.1 = (timesP f n r).1.flatMap e ++ (timesP f n r).2.1 ∧ (timesP f n r).1.length = n
  | 0, r, _ => ⟨rfl, rfl⟩
  | n + 1, r, h => by
    have hr : r.2 = false := good_of (f := timesP f (n + 1)) (fun q hq => times_sticky _ _ hq) h
    have e1 : timesP f (n + 1) r = ((f r).1 :: (timesP f n (f r).2).1, (timesP f n (f r).2).2) := by
      show (if r.2 = true then _ else _) = _
      rw [if_neg (by rw [hr]; simp)]
    rw [e1] at h ⊢
    simp only at h ⊢
    have h1 : (f r).2.2 = false := good_of (f := timesP f n) (fun q hq => times_sticky _ _ hq) h
    obtain ⟨h2, h3⟩ := times_dec hs hf n _ h
    refine ⟨?_, by rw [List.length_cons, h3]⟩
    rw [List.flatMap_cons, List.append_assoc, ← h2]
    exact hf r h1
end
theorem stp_ok {m : Mk} (h : checkM m = 0) : m.1.length ≤ 10 ∧ 1 ≤ m.2 ∧ m.2 ≤ 10000 ∧ ∀ x ∈ m.1, okS x := by
  obtain ⟨h1, _, h3, _, h5, h6⟩ := checkM_ok.1 h
  exact ⟨h1, h5, h6, any_badS.1 h3⟩
theorem stp_enc {x : Stp} (h : okS x) (t : Tx) : stpP (stpB x ++ t, false) = (x, (t, false)) := by
  obtain ⟨h1, h2, h3, h4⟩ := h
  show stpP (b8 x.1 :: b8 x.2 :: t, false) = _
  unfold stpP
  rw [num1_enc h1 (by omega)]
  simp only
  rw [num1_enc h3 (by omega)]
theorem mark_enc {m : Mk} (h : checkM m = 0) (t : Tx) : markP (markB m ++ t, false) = (m, (t, false)) := by
  obtain ⟨h1, h2, h3, h4⟩ := stp_ok h
  unfold markB markP
  rw [List.cons_append, List.append_assoc, num1_enc (by omega) (by omega)]
  simp only [Int.toNat_natCast]
  rw [times_enc (fun x hx t => stp_enc (h4 x hx) t)]
  simp only
  rw [num2_enc (by omega) (by omega)]
theorem noneM_is {m : Mk} (h : noneM m = true) : m = ([], 0) := by
  unfold noneM at h
  simp at h
  obtain ⟨p, c⟩ := m
  obtain ⟨h1, h2⟩ := h
  simp only at h1 h2
  rw [h1, h2]
theorem deedB_put (r : Rn) (m : Mk) (n : Int) : deedB ⟨1, r, m, n⟩ = b8 1 :: (markB r.1 ++ (b8 r.2.length :: r.2)) := by
  unfold deedB
  rw [if_neg (show ¬ (1 : Int) = 2 by omega)]
theorem deedB_take (r : Rn) (m : Mk) (n : Int) : deedB ⟨2, r, m, n⟩ = b8 2 :: (markB m ++ [b8 n]) := by
  unfold deedB
  rw [if_pos rfl]
theorem deed_enc {d : De} (h : checkD d = 0) (t : Tx) : deedP (deedB d ++ t, false) = (d, (t, false)) := by
  by_cases hk : d.kind = 1
  · obtain ⟨h1, h2, h3⟩ := deed_put h hk
    obtain ⟨hm, _, hl, _, _⟩ := checkR_parts h1
    obtain ⟨kd, r, m, n⟩ := d
    obtain rfl : kd = 1 := hk
    obtain rfl : m = ([], 0) := noneM_is h2
    obtain rfl : n = 0 := h3
    simp only at hm hl
    have e1 := num1_enc (k := 1) (by omega) (by omega) (markB r.1 ++ (b8 r.2.length :: (r.2 ++ t)))
    have e2 := mark_enc hm (b8 r.2.length :: (r.2 ++ t))
    have e3 := num1_enc (k := r.2.length) (by omega) (by omega) (r.2 ++ t)
    have e4 : takeP (r.2.length : Int) (r.2 ++ t, false) = (r.2, (t, false)) := by
      unfold takeP
      rw [if_neg (by simp; omega)]
      simp
    rw [deedB_put, show (b8 1 :: (markB r.1 ++ (b8 r.2.length :: r.2))) ++ t = b8 1 :: (markB r.1 ++ (b8 r.2.length :: (r.2 ++ t))) by simp]
    unfold deedP
    simp only
    rw [e1]
    simp only
    rw [if_pos trivial, e2]
    simp only
    rw [e3]
    simp only
    rw [e4]
  · obtain ⟨h1, h2, ⟨n', h3, h4, h5⟩, h6, h7, _⟩ := deed_take h hk
    obtain ⟨kd, ⟨rm, rt⟩, m, n⟩ := d
    obtain rfl : kd = 2 := h1
    obtain rfl : rm = ([], 0) := noneM_is h6
    obtain rfl : rt = [] := h7
    simp only at h2 h3
    have e1 := num1_enc (k := 2) (by omega) (by omega) (markB m ++ (b8 n :: t))
    have e2 := mark_enc h2 (b8 n :: t)
    have e3 := num1_enc (k := n) (by omega) (by omega) t
    rw [deedB_take, show (b8 2 :: (markB m ++ [b8 n])) ++ t = b8 2 :: (markB m ++ (b8 n :: t)) by simp]
    unfold deedP
    simp only
    rw [e1]
    simp only
    rw [if_neg (show ¬ (2 : Int) = 1 by omega), if_pos trivial, e2]
    simp only
    rw [e3]
theorem checkN_okP {n : No} (h : checkN n = 0) : inB n.site 0 4 = true ∧ inB n.number 1 500 = true ∧ n.needs.length = 5 ∧ n.needs.any badI = false ∧ n.needs[n.site.toNat]?.getD 0 = n.number - 1 ∧ n.deeds.length ≠ 0 ∧ n.deeds.length ≤ 20 ∧ checkDL n.deeds = 0 := by
  cases h1 : inB n.site 0 4 with
  | false => rw [checkN_site h1] at h; cases h
  | true =>
    cases h2 : inB n.number 1 500 with
    | false => rw [checkN_number h2] at h; cases h
    | true =>
      by_cases h3 : n.needs.length = 5
      · cases h4 : n.needs.any badI with
        | true => rw [checkN_needs h1 h2 h3 h4] at h; cases h
        | false =>
          rw [checkN_rest h1 h2 h3 h4] at h
          by_cases h5 : n.needs[n.site.toNat]?.getD 0 = n.number - 1
          · rw [if_neg (by simpa using h5)] at h
            by_cases h6 : n.deeds.length = 0
            · rw [if_pos h6] at h; cases h
            · rw [if_neg h6] at h
              by_cases h7 : 20 < n.deeds.length
              · rw [if_pos h7] at h; cases h
              · rw [if_neg h7] at h
                exact ⟨rfl, rfl, h3, rfl, h5, h6, by omega, h⟩
          · rw [if_pos h5] at h; cases h
      · rw [checkN_len h1 h2 h3] at h; cases h
theorem needs_ok {n : No} (h : n.needs.any badI = false) : ∀ x ∈ n.needs, 0 ≤ x ∧ x ≤ 500 := by
  intro x hx
  have := List.any_eq_false.1 h x hx
  unfold badI inB at this
  simpa using this
theorem note_enc {n : No} (h : checkN n = 0) : noteP (noteB n) = (n, ([], false)) := by
  obtain ⟨h1, h2, h3, h4, _, h6, h7, h8⟩ := checkN_okP h
  have hn := needs_ok h4
  have hd := checkDL_ok.1 h8
  unfold inB at h1 h2
  simp at h1 h2
  unfold noteP noteP' noteB
  rw [num1_enc (by omega) (by omega)]
  simp only
  rw [num2_enc (by omega) (by omega)]
  simp only
  have e5 := times_enc (f := numP 2) (e := twoB) (l := n.needs) (fun x hx t => num2_enc (by have := hn x hx; omega) (by have := hn x hx; omega) t) (b8 n.deeds.length :: n.deeds.flatMap deedB)
  rw [h3] at e5
  rw [e5]
  simp only
  rw [num1_enc (by omega) (by omega)]
  simp only [Int.toNat_natCast]
  have e6 := times_enc (f := deedP) (e := deedB) (l := n.deeds) (fun x hx t => deed_enc (hd x hx) t) []
  rw [List.append_nil] at e6
  rw [e6]
theorem enc_dec {n : No} (h : checkN n = 0) : decE (noteB n) = 0 ∧ decV (noteB n) = n := by
  have e : decE (noteB n) = 0 := by
    unfold decE
    rw [note_enc h, if_neg (by simp)]
    exact h
  refine ⟨e, ?_⟩
  unfold decV
  rw [if_pos e, note_enc h]
theorem num1_dec (r : PS) (h : (numP 1 r).2.2 = false) : r.1 = [b8 (numP 1 r).1] ++ (numP 1 r).2.1 ∧ 0 ≤ (numP 1 r).1 := by
  obtain ⟨t, b⟩ := r
  cases t with
  | nil => unfold numP at h; rw [show ((1 : Nat) : Int) = 1 from rfl, take1_nil] at h; cases h
  | cons c t => rw [num1_cons, b8_of]; exact ⟨rfl, by omega⟩
theorem num2_dec (r : PS) (h : (numP 2 r).2.2 = false) : r.1 = twoB (numP 2 r).1 ++ (numP 2 r).2.1 := by
  obtain ⟨t, b⟩ := r
  match t with
  | [] => unfold numP at h; rw [show ((2 : Nat) : Int) = 2 from rfl, take2_nil] at h; cases h
  | [c] => unfold numP at h; rw [show ((2 : Nat) : Int) = 2 from rfl, take2_one] at h; cases h
  | c :: d :: t =>
    rw [num2_cons]
    have hc := c.toNat_lt
    have hd := d.toNat_lt
    have e1 : b8 (256 * (d.toNat : Int) + c.toNat) = c := by
      unfold b8
      rw [show ((256 * (d.toNat : Int) + c.toNat) % 256).toNat = c.toNat by omega]
      exact UInt8.ofNat_toNat
    have e2 : (256 * (d.toNat : Int) + c.toNat) / 256 = (d.toNat : Int) := by omega
    unfold twoB
    simp only
    rw [e1, e2, b8_of]
    rfl
theorem stp_dec (r : PS) (h : (stpP r).2.2 = false) : r.1 = stpB (stpP r).1 ++ (stpP r).2.1 := by
  have h1 : (numP 1 (numP 1 r).2).2.2 = false := h
  have h2 := (num1_dec _ h1).1
  have h3 := (num1_dec _ (good_of (num_sticky 1) h1)).1
  rw [h3, h2]
  rfl
theorem mark_dec (r : PS) (h : (markP r).2.2 = false) : r.1 = markB (markP r).1 ++ (markP r).2.1 := by
  have h1 : (numP 2 (timesP stpP (numP 1 r).1.toNat (numP 1 r).2).2).2.2 = false := h
  have h2 := num2_dec _ h1
  have h3 := good_of (num_sticky 2) h1
  obtain ⟨h4, h5⟩ := times_dec stp_sticky stp_dec _ _ h3
  obtain ⟨h6, h7⟩ := num1_dec r (good_of (f := timesP stpP (numP 1 r).1.toNat) (fun q hq => times_sticky _ _ hq) h3)
  show r.1 = (b8 ((timesP stpP (numP 1 r).1.toNat (numP 1 r).2).1.length : Int) :: ((timesP stpP (numP 1 r).1.toNat (numP 1 r).2).1.flatMap stpB ++ twoB (numP 2 (timesP stpP (numP 1 r).1.toNat (numP 1 r).2).2).1)) ++ (numP 2 (timesP stpP (numP 1 r).1.toNat (numP 1 r).2).2).2.1
  rw [h5, show (((numP 1 r).1.toNat : Nat) : Int) = (numP 1 r).1 by omega]
  generalize numP 2 (timesP stpP (numP 1 r).1.toNat (numP 1 r).2).2 = c at *
  generalize timesP stpP (numP 1 r).1.toNat (numP 1 r).2 = p at *
  rw [h6, h4, h2]
  simp
theorem take_dec {n : Int} (hn : 0 ≤ n) (r : PS) (h : (takeP n r).2.2 = false) : r.1 = (takeP n r).1 ++ (takeP n r).2.1 ∧ ((takeP n r).1.length : Int) = n := by
  unfold takeP at h ⊢
  split at h
  · cases h
  · rename_i hl
    rw [if_neg hl]
    simp only
    refine ⟨(List.take_append_drop ..).symm, ?_⟩
    rw [List.length_take]
    omega
theorem deed_dec (r : PS) (h : (deedP r).2.2 = false) : r.1 = deedB (deedP r).1 ++ (deedP r).2.1 := by
  by_cases k1 : (numP 1 r).1 = 1
  · have e : deedP r = (⟨(numP 1 r).1, ((markP (numP 1 r).2).1, (takeP (numP 1 (markP (numP 1 r).2).2).1 (numP 1 (markP (numP 1 r).2).2).2).1), ([], 0), 0⟩, (takeP (numP 1 (markP (numP 1 r).2).2).1 (numP 1 (markP (numP 1 r).2).2).2).2) := by
      unfold deedP
      simp only
      rw [if_pos k1]
    rw [e] at h ⊢
    simp only at h
    have g1 : (numP 1 (markP (numP 1 r).2).2).2.2 = false := good_of (f := takeP _) (fun q hq => take_sticky _ _ hq) h
    obtain ⟨h1, h1'⟩ := num1_dec _ g1
    obtain ⟨h2, h3⟩ := take_dec h1' _ h
    have g2 : (markP (numP 1 r).2).2.2 = false := good_of (num_sticky 1) g1
    have h4 := mark_dec _ g2
    have g3 : (numP 1 r).2.2 = false := good_of mark_sticky g2
    have h5 := (num1_dec r g3).1
    unfold deedB
    rw [if_neg (by simp only; omega)]
    simp only
    rw [h3]
    generalize takeP (numP 1 (markP (numP 1 r).2).2).1 (numP 1 (markP (numP 1 r).2).2).2 = t at *
    generalize numP 1 (markP (numP 1 r).2).2 = n at *
    generalize markP (numP 1 r).2 = m at *
    generalize numP 1 r = k at *
    rw [h5, h4, h1, h2]
    simp
  · by_cases k2 : (numP 1 r).1 = 2
    · have e : deedP r = (⟨(numP 1 r).1, (([], 0), []), (markP (numP 1 r).2).1, (numP 1 (markP (numP 1 r).2).2).1⟩, (numP 1 (markP (numP 1 r).2).2).2) := by
        unfold deedP
        simp only
        rw [if_neg k1, if_pos k2]
      rw [e] at h ⊢
      simp only at h
      have h1 := (num1_dec _ h).1
      have g2 : (markP (numP 1 r).2).2.2 = false := good_of (num_sticky 1) h
      have h4 := mark_dec _ g2
      have g3 : (numP 1 r).2.2 = false := good_of mark_sticky g2
      have h5 := (num1_dec r g3).1
      unfold deedB
      rw [if_pos (by simp only; exact k2)]
      simp only
      generalize numP 1 (markP (numP 1 r).2).2 = n at *
      generalize markP (numP 1 r).2 = m at *
      generalize numP 1 r = k at *
      rw [h5, h4, h1]
      simp
    · have e : (deedP r).2.2 = true := by
        unfold deedP
        simp only
        rw [if_neg k1, if_neg k2]
      rw [e] at h
      cases h
theorem note_dec' (m : Nat) (s : Tx) (h : (noteP' m s).2.2 = false) : s = noteB (noteP' m s).1 ++ (noteP' m s).2.1 ∧ (noteP' m s).1.needs.length = m := by
  have g5 : (timesP deedP (numP 1 (timesP (numP 2) m (numP 2 (numP 1 (s, false)).2).2).2).1.toNat (numP 1 (timesP (numP 2) m (numP 2 (numP 1 (s, false)).2).2).2).2).2.2 = false := h
  obtain ⟨h5, l5⟩ := times_dec deed_sticky deed_dec _ _ g5
  have g4 := good_of (f := timesP deedP _) (fun q hq => times_sticky _ _ hq) g5
  obtain ⟨h4, p4⟩ := num1_dec _ g4
  have g3 := good_of (num_sticky 1) g4
  obtain ⟨h3, l3⟩ := times_dec (num_sticky 2) num2_dec _ _ g3
  have g2 : (numP 2 (numP 1 (s, false)).2).2.2 = false := good_of (f := timesP (numP 2) m) (fun q hq => times_sticky _ _ hq) g3
  have h2 := num2_dec _ g2
  have g1 : (numP 1 (s, false)).2.2 = false := good_of (num_sticky 2) g2
  have h1 := (num1_dec _ g1).1
  unfold noteP' noteB
  simp only
  rw [l5, show (((numP 1 (timesP (numP 2) m (numP 2 (numP 1 (s, false)).2).2).2).1.toNat : Nat) : Int) = (numP 1 (timesP (numP 2) m (numP 2 (numP 1 (s, false)).2).2).2).1 by omega]
  refine ⟨?_, l3⟩
  generalize timesP deedP (numP 1 (timesP (numP 2) m (numP 2 (numP 1 (s, false)).2).2).2).1.toNat (numP 1 (timesP (numP 2) m (numP 2 (numP 1 (s, false)).2).2).2).2 = d at *
  generalize numP 1 (timesP (numP 2) m (numP 2 (numP 1 (s, false)).2).2).2 = k at *
  generalize timesP (numP 2) m (numP 2 (numP 1 (s, false)).2).2 = c at *
  generalize numP 2 (numP 1 (s, false)).2 = b at *
  generalize numP 1 (s, false) = a at *
  simp only at h1
  rw [h1, h2, h3, h4, h5]
  simp
/-- what is decoded is encoded as it was -/
theorem dec_enc {s : Tx} (h : decE s = 0) : checkN (decV s) = 0 ∧ noteB (decV s) = s := by
  have e : decV s = (noteP s).1 := by unfold decV; rw [if_pos h]
  unfold decE at h
  by_cases hb : (noteP s).2.2 = true ∨ (noteP s).2.1 ≠ []
  · rw [if_pos hb] at h; cases h
  · rw [if_neg hb] at h
    rw [e]
    refine ⟨h, ?_⟩
    have h1 : (noteP s).2.2 = false := by
      cases hc : (noteP s).2.2 with
      | false => rfl
      | true => exact absurd (.inl hc) hb
    have h2 : (noteP s).2.1 = [] := by
      rcases Classical.em ((noteP s).2.1 = []) with h | h
      · exact h
      · exact absurd (.inr h) hb
    have h3 := (note_dec' 5 s h1).1
    have h4 : (noteP' 5 s).2.1 = [] := h2
    rw [h4, List.append_nil] at h3
    exact h3.symm
theorem decV_err {s : Tx} (h : ¬ decE s = 0) : decV s = noNote := by unfold decV; rw [if_neg h]
end Go.Proofs.Ytiladkinndgeaaa
/- What is wrong with a note, by the program. -/
namespace Go.Proofs.Ytiladkinndgeaaa
open Go Go.RowKit Go.BigFrame Cp

set_option maxRecDepth 100000 in
set_option maxHeartbeats 4000000 in
theorem checkNoteP_any {F : Nat → Prop} {w : World} {cs : List Value} {n : No} (h : RNo F w cs n) :
    Calls Try.prog 13 #[.agg cs.toArray] w fun e w' => e = .returned (.int .i64 (checkN n)) ∧ Ext w w' := by
  obtain ⟨v, u, rfl, hi, hj, hl, hd⟩ := h
  obtain ⟨st, nb, l, q⟩ := n
  simp only at hi hj hl hd ⊢
  have HL := Lib.hid (fun (W : World) (hx : Ext w W) => hl.ext gInt hx)
  have HD := Lib.hid (fun (W : World) (hx : Ext w W) => hd.ext gDe hx)
  have HCI := Lib.hid (fun (W : World) (hx : Ext w W) => containsIntW_any (hl.ext gInt hx))
  obtain ⟨al, nl, cl, rfl⟩ := hl.slice
  obtain ⟨rfl, _, _⟩ := hl.len
  obtain ⟨ad, nd, cd, rfl⟩ := hd.slice
  obtain ⟨rfl, hn1, hn2⟩ := hd.len
  unfold maxLen at hn2
  have q1 : q.length ≤ 9223372036854775807 := by omega
  clear hl hd hn1 hn2 hi hj
  cases g1 : inB st 0 4 with
  | false =>
    rw [checkN_site g1]
    go_enter Try.func13, Try.ntmps13
    go_wp2_with (first
      | (go_at_call 39; (with_reducible refine (site_any _ _).mono ?_); rintro e w' ⟨rfl, rfl⟩)
      | (go_at_call 40; (with_reducible refine (withinW_any _ _ _ _).mono ?_); rintro e w' ⟨rfl, rfl⟩))
    go_ret
    exact ⟨rfl, extA⟩
  | true =>
  cases g2 : inB nb 1 500 with
  | false =>
    rw [checkN_number g2]
    go_enter Try.func13, Try.ntmps13
    go_wp2_with (first
      | (go_at_call 39; (with_reducible refine (site_any _ _).mono ?_); rintro e w' ⟨rfl, rfl⟩)
      | (go_at_call 40; (with_reducible refine (withinW_any _ _ _ _).mono ?_); rintro e w' ⟨rfl, rfl⟩))
    go_ret
    exact ⟨rfl, extA⟩
  | true =>
  by_cases g3 : l.length = 5
  · have t3 : ((l.length : Int) != 5) = false := by rw [g3]; rfl
    have HG3 := Lib.hid g3
    obtain ⟨j, rfl, hj⟩ := site_nat g1
    obtain ⟨b1, b2⟩ := num_rng g2
    have hjl : j < l.length := by omega
    obtain ⟨bn, on, x, rfl, hbn, ex, ix, y0⟩ := int_at (HL.out w (ext_refl _)) hjl
    have HEX := Lib.hid (show l[(j : Int).toNat]?.getD 0 = x by simp [ex])
    have hn1 : ¬ bn = w.heap.size := by omega
    have hn2 : ¬ w.heap.size = bn := by omega
    clear g3 ex
    cases g4 : l.any badI with
    | true =>
      rw [checkN_needs g1 g2 HG3.out g4]
      rw [g4] at HCI
      clear HD
      go_enter Try.func13, Try.ntmps13
      go_wp2_with (first
        | (go_at_call 39; (with_reducible refine (site_any _ _).mono ?_); rintro e w' ⟨rfl, rfl⟩)
        | (go_at_call 40; (with_reducible refine (withinW_any _ _ _ _).mono ?_); rintro e w' ⟨rfl, rfl⟩)
        | (go_at_call 41; go_must ((with_reducible refine (HCI.out _ extA).mono ?_); rintro e w1 ⟨rfl, hx1⟩; have hz1 := hx1.size; (try simp at hz1); have hb1_0 : w.heap.size < w1.heap.size := (by omega); have p0 := (hx1.cells (w.heap.size) (0) (by first | omega | (simp <;> omega))).trans (show _ = some (.int .i64 (j : Nat)) by first | (with_reducible assumption) | go_simp); have p1 := (hx1.cells (w.heap.size) (1) (by first | omega | (simp <;> omega))).trans (show _ = some (.int .i64 nb) by first | (with_reducible assumption) | go_simp); have p2 := (hx1.cells (w.heap.size) (2) (by first | omega | (simp <;> omega))).trans (show _ = some (.slice (some ⟨bn, on, none⟩) l.length cl) by first | (with_reducible assumption) | go_simp); have p3 := (hx1.cells (w.heap.size) (3) (by first | omega | (simp <;> omega))).trans (show _ = some (.slice ad q.length cd) by first | (with_reducible assumption) | go_simp))))
      go_ret
      exact ⟨rfl, extA⟩
    | false =>
      have HR := Lib.hid (checkN_rest (n := ⟨(j : Nat), nb, l, q⟩) g1 g2 HG3.out g4)
      simp only at HR
      rw [g4] at HCI
      go_enter Try.func13, Try.ntmps13
      go_wp2_with (first
        | (go_at_call 39; (with_reducible refine (site_any _ _).mono ?_); rintro e w' ⟨rfl, rfl⟩)
        | (go_at_call 40; (with_reducible refine (withinW_any _ _ _ _).mono ?_); rintro e w' ⟨rfl, rfl⟩)
        | (go_at_call 41; go_must ((with_reducible refine (HCI.out _ extA).mono ?_); rintro e w1 ⟨rfl, hx1⟩; have hz1 := hx1.size; (try simp at hz1); have hb1_0 : w.heap.size < w1.heap.size := (by omega); have p0 := (hx1.cells (w.heap.size) (0) (by first | omega | (simp <;> omega))).trans (show _ = some (.int .i64 (j : Nat)) by first | (with_reducible assumption) | go_simp); have p1 := (hx1.cells (w.heap.size) (1) (by first | omega | (simp <;> omega))).trans (show _ = some (.int .i64 nb) by first | (with_reducible assumption) | go_simp); have p2 := (hx1.cells (w.heap.size) (2) (by first | omega | (simp <;> omega))).trans (show _ = some (.slice (some ⟨bn, on, none⟩) l.length cl) by first | (with_reducible assumption) | go_simp); have p3 := (hx1.cells (w.heap.size) (3) (by first | omega | (simp <;> omega))).trans (show _ = some (.slice ad q.length cd) by first | (with_reducible assumption) | go_simp); have y5 := (hx1.cells bn (on + j) (by first | omega | (simp <;> omega))).trans (show _ = some (.int .i64 x) by first | (with_reducible assumption) | go_simp))))
      by_cases g5 : x = nb - 1
      · have t5 : (x != nb - 1) = false := by rw [g5]; simp
        have H5 := Lib.hid g5
        clear g5
        refine wp_name (fun W2 eW2 => ?_)
        have e0 : W2.cell? ⟨w.heap.size, 0, none⟩ = some (.int .i64 (j : Nat)) := by rw [eW2]; go_simp
        have e1 : W2.cell? ⟨w.heap.size, 1, none⟩ = some (.int .i64 nb) := by rw [eW2]; go_simp
        have e2 : W2.cell? ⟨w.heap.size, 2, none⟩ = some (.slice (some ⟨bn, on, none⟩) l.length cl) := by rw [eW2]; go_simp
        have e3 : W2.cell? ⟨w.heap.size, 3, none⟩ = some (.slice ad q.length cd) := by rw [eW2]; go_simp
        have e4 : W2.cell? ⟨bn, on + j, none⟩ = some (.int .i64 x) := by rw [eW2]; go_simp
        have zW2_0 : w.heap.size < W2.heap.size := by rw [eW2]; first | assumption | omega | (simp <;> omega)
        have zW2_1 : bn < W2.heap.size := by rw [eW2]; first | assumption | omega | (simp <;> omega)
        have hw2 : Ext w W2 := by rw [eW2]; exact extA
        clear eW2
        refine wp_region_later fol (by kernel_rfl) (fun hlater => ?_)
        repeat (go_big_quiet_step ((fail)))
        refine wpQuiet_nil ?_
        rintro w3 ⟨⟨w3x, hx3⟩, rfl⟩
        clear hlater
        have fz0 := (hx3.cells (w.heap.size) (0) (by omega)).trans e0
        have fz1 := (hx3.cells (w.heap.size) (1) (by omega)).trans e1
        have fz2 := (hx3.cells (w.heap.size) (2) (by omega)).trans e2
        have fz3 := (hx3.cells (w.heap.size) (3) (by omega)).trans e3
        have hz3 := hx3.size
        have hb3 : w.heap.size < w3.heap.size := by omega
        have hw3 : Ext w w3 := ext_trans hw2 hx3
        clear hx3 hw2 e0 e1 e2 e3 e4
        by_cases g6 : q.length = 0
        · have t6 : ((q.length : Int) == 0) = true := by rw [beq_iff_eq]; omega
          go_wp2_with fail
          go_ret
          exact ⟨ri (by rw [HR.out, if_neg (by rw [HEX.out, H5.out]; simp), if_pos g6]), hw3⟩
        have t6 : ((q.length : Int) == 0) = false := by rw [beq_eq_false_iff_ne]; omega
        by_cases g7 : 20 < q.length
        · go_wp2_with fail
          go_ret
          exact ⟨ri (by rw [HR.out, if_neg (by rw [HEX.out, H5.out]; simp), if_neg g6, if_pos g7]), hw3⟩
        have HI0 := Lib.hid (show checkN ⟨(j : Nat), nb, l, q⟩ = checkDL (q.drop 0) by rw [HR.out, if_neg (by rw [HEX.out, H5.out]; simp), if_neg g6, if_neg g7]; rfl)
        clear HR HEX H5 g6
        have HW3 := Lib.hid hw3
        clear hw3
        go_wp2_with fail
        go_loopw [50] (fun i wr => ∃ k : Nat, k ≤ q.length ∧ i = .int .i64 k ∧ Hid (checkN ⟨(j : Nat), nb, l, q⟩ = checkDL (q.drop k)) ∧ Ext w3 wr) (fun i _ => q.length - (intOf i).toNat)
        case atStart => exact ⟨0, Nat.zero_le _, rfl, HI0, ext_refl _⟩
        case round =>
          obtain ⟨k, hk, rfl, HI, hx⟩ := hrel
          have z0 := (hx.cells w.heap.size 0 hb3).trans fz0
          have z1 := (hx.cells w.heap.size 1 hb3).trans fz1
          have z2 := (hx.cells w.heap.size 2 hb3).trans fz2
          have z3 := (hx.cells w.heap.size 3 hb3).trans fz3
          have hzr := hx.size
          have hbr : w.heap.size < wr.heap.size := by omega
          have HX := Lib.hid (ext_trans HW3.out hx)
          have HXQ := Lib.hid hx
          clear hx
          by_cases hlt : k < q.length
          · obtain ⟨b, o, d, a1, n1, c1, a2, n2, c2, s, rfl, hb, ek, hdd, y0, y1, y2, y3, y4, y5, y6⟩ := deed_at (HD.out wr HX.out) hlt
            have HC := Lib.hid (fun (W : World) (hx : Ext wr W) => checkDeedP_any (gDe.ext hdd hx))
            have hn3 : ¬ b = wr.heap.size := by omega
            have hn4 : ¬ wr.heap.size = b := by omega
            clear hdd
            by_cases g8 : checkD d = 0
            · have HN := Lib.hid (HI.out.trans (checkDL_next ek g8))
              rw [g8] at HC
              clear g8 ek
              go_wp2_with (go_at_call 43; go_must ((with_reducible refine (HC.out _ extA).mono ?_); rintro e w4 ⟨rfl, hx4⟩; have hz4 := hx4.size; (try simp at hz4); have hb4_0 : w.heap.size < w4.heap.size := (by omega); have v0 := (hx4.cells (w.heap.size) (3) (by first | omega | (simp <;> omega))).trans (show _ = some (.slice (some ⟨b, o, none⟩) q.length cd) by first | (with_reducible assumption) | go_simp)))
              go_roundw
              case rel => exact ⟨k + 1, by omega, by go_num, HN, ext_trans HXQ.out extA⟩
              case measure => simp [intOf]; omega
            · have HN := Lib.hid (HI.out.trans (checkDL_bad ek g8))
              have t8 : (checkD d != 0) = true := by simpa using g8
              generalize checkD d = cd' at *
              clear g8 ek
              go_wp2_with (go_at_call 43; go_must ((with_reducible refine (HC.out _ extA).mono ?_); rintro e w4 ⟨rfl, hx4⟩; have hz4 := hx4.size; (try simp at hz4); have hb4_0 : w.heap.size < w4.heap.size := (by omega); have v0 := (hx4.cells (w.heap.size) (3) (by first | omega | (simp <;> omega))).trans (show _ = some (.slice (some ⟨b, o, none⟩) q.length cd) by first | (with_reducible assumption) | go_simp)))
              go_ret
              exact ⟨ri HN.out.symm, ext_trans HX.out extA⟩
          · go_wp2_with fail
            go_ret
            exact ⟨ri (by rw [HI.out, checkDL_end (by omega)]), HX.out⟩
      · have t5 : (x != nb - 1) = true := by simpa using g5
        refine wp_name (fun W2 eW2 => ?_)
        have e0 : W2.cell? ⟨w.heap.size, 0, none⟩ = some (.int .i64 (j : Nat)) := by rw [eW2]; go_simp
        have e1 : W2.cell? ⟨w.heap.size, 1, none⟩ = some (.int .i64 nb) := by rw [eW2]; go_simp
        have e2 : W2.cell? ⟨w.heap.size, 2, none⟩ = some (.slice (some ⟨bn, on, none⟩) l.length cl) := by rw [eW2]; go_simp
        have e3 : W2.cell? ⟨w.heap.size, 3, none⟩ = some (.slice ad q.length cd) := by rw [eW2]; go_simp
        have e4 : W2.cell? ⟨bn, on + j, none⟩ = some (.int .i64 x) := by rw [eW2]; go_simp
        have zW2_0 : w.heap.size < W2.heap.size := by rw [eW2]; first | assumption | omega | (simp <;> omega)
        have zW2_1 : bn < W2.heap.size := by rw [eW2]; first | assumption | omega | (simp <;> omega)
        have hw2 : Ext w W2 := by rw [eW2]; exact extA
        clear eW2
        refine wp_region_later fol (by kernel_rfl) (fun hlater => ?_)
        repeat (go_big_quiet_step ((fail)))
        refine wpQuiet_nil ?_
        rintro w3 ⟨⟨w3x, hx3⟩, rfl⟩
        clear hlater
        go_wp2_with fail
        go_ret
        exact ⟨ri (by rw [HR.out, if_pos (by rw [HEX.out]; exact g5)]), ext_trans hw2 hx3⟩
  · rw [checkN_len g1 g2 g3]
    have t3 : ((l.length : Int) != 5) = true := by rw [bne_iff_ne]; omega
    clear g3
    go_enter Try.func13, Try.ntmps13
    go_wp2_with (first
      | (go_at_call 39; (with_reducible refine (site_any _ _).mono ?_); rintro e w' ⟨rfl, rfl⟩)
      | (go_at_call 40; (with_reducible refine (withinW_any _ _ _ _).mono ?_); rintro e w' ⟨rfl, rfl⟩))
    go_ret
    exact ⟨rfl, extA⟩
end Go.Proofs.Ytiladkinndgeaaa
/- Relays, plain. -/
namespace Go.Proofs.Ytiladkinndgeaaa
open Go Cp

end Go.Proofs.Ytiladkinndgeaaa
