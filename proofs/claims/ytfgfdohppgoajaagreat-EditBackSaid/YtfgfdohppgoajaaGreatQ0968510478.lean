/- What is wrong with a deed. -/
import Derived.Test.YtfgfdohppgoajaaGreatQebf1797204
import Derived.Test.YtfgfdohppgoajaaGreatQ8ebb1f5718
import Derived.Test.YtfgfdohppgoajaaGreatQa1b06f5163
import Derived.Test.YtfgfdohppgoajaaGreatQ5ab4d67304
set_option linter.unusedVariables false
set_option linter.unusedSimpArgs false
namespace Go.Proofs.YtfgfdohppgoajaaGreat
open Go Go.RowKit Go.BigFrame Cp

def checkD (d : De) : Int :=
  if d.kind = 1 then (if checkR d.run ≠ 0 then checkR d.run else if noneM d.mark = false ∨ d.many ≠ 0 then 1 else 0)
  else if d.kind = 2 then
    (if checkM d.mark ≠ 0 then checkM d.mark else if noneM d.run.1 = false ∨ d.run.2 ≠ [] then 1 else if d.many < 1 ∨ 60 < d.many then 3 else (nextM d.mark (d.many - 1)).2)
  else 7
section
variable {d : De}
theorem checkD_put_bad (h : d.kind = 1) (h1 : ¬ checkR d.run = 0) : checkD d = checkR d.run := by unfold checkD; rw [if_pos h, if_pos h1]
theorem checkD_put_form (h : d.kind = 1) (h1 : checkR d.run = 0) (h2 : noneM d.mark = false ∨ d.many ≠ 0) : checkD d = 1 := by unfold checkD; rw [if_pos h, if_neg (by simpa using h1), if_pos h2]
theorem checkD_put_ok (h : d.kind = 1) (h1 : checkR d.run = 0) (h2 : noneM d.mark = true) (h3 : d.many = 0) : checkD d = 0 := by unfold checkD; rw [if_pos h, if_neg (by simpa using h1), if_neg (by rw [h2, h3]; simp)]
theorem checkD_take_bad (h0 : ¬ d.kind = 1) (h : d.kind = 2) (h1 : ¬ checkM d.mark = 0) : checkD d = checkM d.mark := by unfold checkD; rw [if_neg h0, if_pos h, if_pos h1]
theorem checkD_take_form (h0 : ¬ d.kind = 1) (h : d.kind = 2) (h1 : checkM d.mark = 0) (h2 : noneM d.run.1 = false ∨ d.run.2 ≠ []) : checkD d = 1 := by unfold checkD; rw [if_neg h0, if_pos h, if_neg (by simpa using h1), if_pos h2]
theorem checkD_take_range (h0 : ¬ d.kind = 1) (h : d.kind = 2) (h1 : checkM d.mark = 0) (h2 : noneM d.run.1 = true) (h3 : d.run.2 = []) (h4 : d.many < 1 ∨ 60 < d.many) : checkD d = 3 := by
  unfold checkD; rw [if_neg h0, if_pos h, if_neg (by simpa using h1), if_neg (by rw [h2, h3]; simp), if_pos h4]
theorem checkD_take_next (h0 : ¬ d.kind = 1) (h : d.kind = 2) (h1 : checkM d.mark = 0) (h2 : noneM d.run.1 = true) (h3 : d.run.2 = []) (h4 : ¬ (d.many < 1 ∨ 60 < d.many)) : checkD d = (nextM d.mark (d.many - 1)).2 := by
  unfold checkD; rw [if_neg h0, if_pos h, if_neg (by simpa using h1), if_neg (by rw [h2, h3]; simp), if_neg h4]
theorem checkD_kind (h0 : ¬ d.kind = 1) (h : ¬ d.kind = 2) : checkD d = 7 := by unfold checkD; rw [if_neg h0, if_neg h]
end
theorem rde_of {F : Nat → Prop} {w : World} {v u s : Value} {k c c2 m : Int} {p p2 : List Stp} {t : Tx} (hk : I64 k) (hp : RSl RStp 2 F w v p) (hc : I64 c) (ht : RTx s t) (hq : RSl RStp 2 F w u p2) (hc2 : I64 c2) (hm : I64 m) :
    RDe F w [.int .i64 k, v, .int .i64 c, s, u, .int .i64 c2, .int .i64 m] ⟨k, ((p, c), t), (p2, c2), m⟩ := ⟨v, s, u, rfl, hk, hp, hc, ht, hq, hc2, hm⟩

set_option maxRecDepth 100000 in
set_option maxHeartbeats 4000000 in
theorem checkDeedP_any {F : Nat → Prop} {w : World} {cs : List Value} {d : De} (h : RDe F w cs d) :
    Calls Tryz.prog 39 #[.agg cs.toArray] w fun e w' => e = .returned (.int .i64 (checkD d)) ∧ Ext w w' := by
  obtain ⟨v, u, x, rfl, hk, hl, hi, hu, hm, hj, hn⟩ := h
  obtain ⟨kd, ⟨⟨l, c⟩, t⟩, ⟨m, e⟩, mn⟩ := d
  simp only at hk hl hi hu hm hj hn ⊢
  obtain ⟨s, rfl, rfl, hs⟩ := tx_bytes hu
  have HR := Lib.hid (fun (W : World) (hx : Ext w W) => checkRunP_any (rrn_of (hl.ext gStp hx) hi hu))
  have HK := Lib.hid (fun (W : World) (hx : Ext w W) => check_any (rmk_of' (hm.ext gStp hx) hj))
  have HN1 := Lib.hid (fun (W : World) (hx : Ext w W) => noneP_any (rmk_of' (hl.ext gStp hx) hi))
  have HN2 := Lib.hid (fun (W : World) (hx : Ext w W) => noneP_any (rmk_of' (hm.ext gStp hx) hj))
  have HX := Lib.hid (fun (W : World) (hx : Ext w W) => next_any (k := mn - 1) (rmk_of' (hm.ext gStp hx) hj))
  obtain ⟨a1, n1, c1, rfl⟩ := hl.slice
  obtain ⟨a2, n2, c2, rfl⟩ := hm.slice
  obtain ⟨hn1, hn2⟩ := hn
  clear hl hi hu hm hj hk
  by_cases k1 : kd = 1
  · subst k1
    by_cases h0 : checkR ((l, c), s.data.toList) = 0
    · have H0 := Lib.hid h0
      rw [h0] at HR
      clear h0
      cases g : noneM (m, e) with
      | false =>
        rw [checkD_put_form rfl H0.out (.inl g)]
        rw [g] at HN2
        clear HN1 HK
        go_enter Tryz.func39, Tryz.ntmps39
        go_wp2_with (first
          | (go_at_call 55; (with_reducible refine (HR.out _ extA).mono ?_); rintro e' w1 ⟨rfl, hx1⟩; have hz1 := hx1.size; (try simp at hz1); have hb1_0 : w.heap.size < w1.heap.size := (by omega); have p0 := (hx1.cells (w.heap.size) (0) (by first | omega | (simp <;> omega))).trans (show _ = some (.int .i64 1) by first | assumption | go_simp); have p1 := (hx1.cells (w.heap.size) (1) (by first | omega | (simp <;> omega))).trans (show _ = some (.slice a1 n1 c1) by first | assumption | go_simp); have p2 := (hx1.cells (w.heap.size) (2) (by first | omega | (simp <;> omega))).trans (show _ = some (.int .i64 c) by first | assumption | go_simp); have p3 := (hx1.cells (w.heap.size) (3) (by first | omega | (simp <;> omega))).trans (show _ = some (.string s) by first | assumption | go_simp); have p4 := (hx1.cells (w.heap.size) (4) (by first | omega | (simp <;> omega))).trans (show _ = some (.slice a2 n2 c2) by first | assumption | go_simp); have p5 := (hx1.cells (w.heap.size) (5) (by first | omega | (simp <;> omega))).trans (show _ = some (.int .i64 e) by first | assumption | go_simp); have p6 := (hx1.cells (w.heap.size) (6) (by first | omega | (simp <;> omega))).trans (show _ = some (.int .i64 mn) by first | assumption | go_simp))
          | (go_at_call 58; (with_reducible refine (HK.out _ extA).mono ?_); rintro e' w2 ⟨rfl, hx2⟩; have hz2 := hx2.size; (try simp at hz2); have hb2_0 : w.heap.size < w2.heap.size := (by omega); have q0 := (hx2.cells (w.heap.size) (0) (by first | omega | (simp <;> omega))).trans (show _ = some (.int .i64 1) by first | assumption | go_simp); have q1 := (hx2.cells (w.heap.size) (1) (by first | omega | (simp <;> omega))).trans (show _ = some (.slice a1 n1 c1) by first | assumption | go_simp); have q2 := (hx2.cells (w.heap.size) (2) (by first | omega | (simp <;> omega))).trans (show _ = some (.int .i64 c) by first | assumption | go_simp); have q3 := (hx2.cells (w.heap.size) (3) (by first | omega | (simp <;> omega))).trans (show _ = some (.string s) by first | assumption | go_simp); have q4 := (hx2.cells (w.heap.size) (4) (by first | omega | (simp <;> omega))).trans (show _ = some (.slice a2 n2 c2) by first | assumption | go_simp); have q5 := (hx2.cells (w.heap.size) (5) (by first | omega | (simp <;> omega))).trans (show _ = some (.int .i64 e) by first | assumption | go_simp); have q6 := (hx2.cells (w.heap.size) (6) (by first | omega | (simp <;> omega))).trans (show _ = some (.int .i64 mn) by first | assumption | go_simp))
          | (go_at_call 85; (with_reducible refine (HN2.out _ extA).mono ?_); rintro e' w4 ⟨rfl, hx4⟩; have hz4 := hx4.size; (try simp at hz4); have hb4_0 : w.heap.size < w4.heap.size := (by omega); have s0 := (hx4.cells (w.heap.size) (0) (by first | omega | (simp <;> omega))).trans (show _ = some (.int .i64 1) by first | assumption | go_simp); have s1 := (hx4.cells (w.heap.size) (1) (by first | omega | (simp <;> omega))).trans (show _ = some (.slice a1 n1 c1) by first | assumption | go_simp); have s2 := (hx4.cells (w.heap.size) (2) (by first | omega | (simp <;> omega))).trans (show _ = some (.int .i64 c) by first | assumption | go_simp); have s3 := (hx4.cells (w.heap.size) (3) (by first | omega | (simp <;> omega))).trans (show _ = some (.string s) by first | assumption | go_simp); have s4 := (hx4.cells (w.heap.size) (4) (by first | omega | (simp <;> omega))).trans (show _ = some (.slice a2 n2 c2) by first | assumption | go_simp); have s5 := (hx4.cells (w.heap.size) (5) (by first | omega | (simp <;> omega))).trans (show _ = some (.int .i64 e) by first | assumption | go_simp); have s6 := (hx4.cells (w.heap.size) (6) (by first | omega | (simp <;> omega))).trans (show _ = some (.int .i64 mn) by first | assumption | go_simp))
          | (go_at_call 85; (with_reducible refine (HN1.out _ extA).mono ?_); rintro e' w3 ⟨rfl, hx3⟩; have hz3 := hx3.size; (try simp at hz3); have hb3_0 : w.heap.size < w3.heap.size := (by omega); have r0 := (hx3.cells (w.heap.size) (0) (by first | omega | (simp <;> omega))).trans (show _ = some (.int .i64 1) by first | assumption | go_simp); have r1 := (hx3.cells (w.heap.size) (1) (by first | omega | (simp <;> omega))).trans (show _ = some (.slice a1 n1 c1) by first | assumption | go_simp); have r2 := (hx3.cells (w.heap.size) (2) (by first | omega | (simp <;> omega))).trans (show _ = some (.int .i64 c) by first | assumption | go_simp); have r3 := (hx3.cells (w.heap.size) (3) (by first | omega | (simp <;> omega))).trans (show _ = some (.string s) by first | assumption | go_simp); have r4 := (hx3.cells (w.heap.size) (4) (by first | omega | (simp <;> omega))).trans (show _ = some (.slice a2 n2 c2) by first | assumption | go_simp); have r5 := (hx3.cells (w.heap.size) (5) (by first | omega | (simp <;> omega))).trans (show _ = some (.int .i64 e) by first | assumption | go_simp); have r6 := (hx3.cells (w.heap.size) (6) (by first | omega | (simp <;> omega))).trans (show _ = some (.int .i64 mn) by first | assumption | go_simp))
          | (go_at_call 34; (with_reducible refine (HX.out _ extA).mono ?_); rintro e' w5 ⟨cs5, rfl, hm5, hx5⟩; obtain ⟨v5, rfl, hv5, _⟩ := hm5; obtain ⟨a5, n5, c5, rfl⟩ := hv5.slice; clear hv5))
        go_ret
        exact ⟨rfl, extA⟩
      | true =>
        rw [g] at HN2
        clear HN1 HK
        by_cases h1 : mn = 0
        · rw [checkD_put_ok rfl H0.out g h1]
          have t1 : (mn != 0) = false := by simpa using h1
          clear h1
          go_enter Tryz.func39, Tryz.ntmps39
          go_wp2_with (first
            | (go_at_call 55; (with_reducible refine (HR.out _ extA).mono ?_); rintro e' w1 ⟨rfl, hx1⟩; have hz1 := hx1.size; (try simp at hz1); have hb1_0 : w.heap.size < w1.heap.size := (by omega); have p0 := (hx1.cells (w.heap.size) (0) (by first | omega | (simp <;> omega))).trans (show _ = some (.int .i64 1) by first | assumption | go_simp); have p1 := (hx1.cells (w.heap.size) (1) (by first | omega | (simp <;> omega))).trans (show _ = some (.slice a1 n1 c1) by first | assumption | go_simp); have p2 := (hx1.cells (w.heap.size) (2) (by first | omega | (simp <;> omega))).trans (show _ = some (.int .i64 c) by first | assumption | go_simp); have p3 := (hx1.cells (w.heap.size) (3) (by first | omega | (simp <;> omega))).trans (show _ = some (.string s) by first | assumption | go_simp); have p4 := (hx1.cells (w.heap.size) (4) (by first | omega | (simp <;> omega))).trans (show _ = some (.slice a2 n2 c2) by first | assumption | go_simp); have p5 := (hx1.cells (w.heap.size) (5) (by first | omega | (simp <;> omega))).trans (show _ = some (.int .i64 e) by first | assumption | go_simp); have p6 := (hx1.cells (w.heap.size) (6) (by first | omega | (simp <;> omega))).trans (show _ = some (.int .i64 mn) by first | assumption | go_simp))
            | (go_at_call 58; (with_reducible refine (HK.out _ extA).mono ?_); rintro e' w2 ⟨rfl, hx2⟩; have hz2 := hx2.size; (try simp at hz2); have hb2_0 : w.heap.size < w2.heap.size := (by omega); have q0 := (hx2.cells (w.heap.size) (0) (by first | omega | (simp <;> omega))).trans (show _ = some (.int .i64 1) by first | assumption | go_simp); have q1 := (hx2.cells (w.heap.size) (1) (by first | omega | (simp <;> omega))).trans (show _ = some (.slice a1 n1 c1) by first | assumption | go_simp); have q2 := (hx2.cells (w.heap.size) (2) (by first | omega | (simp <;> omega))).trans (show _ = some (.int .i64 c) by first | assumption | go_simp); have q3 := (hx2.cells (w.heap.size) (3) (by first | omega | (simp <;> omega))).trans (show _ = some (.string s) by first | assumption | go_simp); have q4 := (hx2.cells (w.heap.size) (4) (by first | omega | (simp <;> omega))).trans (show _ = some (.slice a2 n2 c2) by first | assumption | go_simp); have q5 := (hx2.cells (w.heap.size) (5) (by first | omega | (simp <;> omega))).trans (show _ = some (.int .i64 e) by first | assumption | go_simp); have q6 := (hx2.cells (w.heap.size) (6) (by first | omega | (simp <;> omega))).trans (show _ = some (.int .i64 mn) by first | assumption | go_simp))
            | (go_at_call 85; (with_reducible refine (HN2.out _ extA).mono ?_); rintro e' w4 ⟨rfl, hx4⟩; have hz4 := hx4.size; (try simp at hz4); have hb4_0 : w.heap.size < w4.heap.size := (by omega); have s0 := (hx4.cells (w.heap.size) (0) (by first | omega | (simp <;> omega))).trans (show _ = some (.int .i64 1) by first | assumption | go_simp); have s1 := (hx4.cells (w.heap.size) (1) (by first | omega | (simp <;> omega))).trans (show _ = some (.slice a1 n1 c1) by first | assumption | go_simp); have s2 := (hx4.cells (w.heap.size) (2) (by first | omega | (simp <;> omega))).trans (show _ = some (.int .i64 c) by first | assumption | go_simp); have s3 := (hx4.cells (w.heap.size) (3) (by first | omega | (simp <;> omega))).trans (show _ = some (.string s) by first | assumption | go_simp); have s4 := (hx4.cells (w.heap.size) (4) (by first | omega | (simp <;> omega))).trans (show _ = some (.slice a2 n2 c2) by first | assumption | go_simp); have s5 := (hx4.cells (w.heap.size) (5) (by first | omega | (simp <;> omega))).trans (show _ = some (.int .i64 e) by first | assumption | go_simp); have s6 := (hx4.cells (w.heap.size) (6) (by first | omega | (simp <;> omega))).trans (show _ = some (.int .i64 mn) by first | assumption | go_simp))
            | (go_at_call 85; (with_reducible refine (HN1.out _ extA).mono ?_); rintro e' w3 ⟨rfl, hx3⟩; have hz3 := hx3.size; (try simp at hz3); have hb3_0 : w.heap.size < w3.heap.size := (by omega); have r0 := (hx3.cells (w.heap.size) (0) (by first | omega | (simp <;> omega))).trans (show _ = some (.int .i64 1) by first | assumption | go_simp); have r1 := (hx3.cells (w.heap.size) (1) (by first | omega | (simp <;> omega))).trans (show _ = some (.slice a1 n1 c1) by first | assumption | go_simp); have r2 := (hx3.cells (w.heap.size) (2) (by first | omega | (simp <;> omega))).trans (show _ = some (.int .i64 c) by first | assumption | go_simp); have r3 := (hx3.cells (w.heap.size) (3) (by first | omega | (simp <;> omega))).trans (show _ = some (.string s) by first | assumption | go_simp); have r4 := (hx3.cells (w.heap.size) (4) (by first | omega | (simp <;> omega))).trans (show _ = some (.slice a2 n2 c2) by first | assumption | go_simp); have r5 := (hx3.cells (w.heap.size) (5) (by first | omega | (simp <;> omega))).trans (show _ = some (.int .i64 e) by first | assumption | go_simp); have r6 := (hx3.cells (w.heap.size) (6) (by first | omega | (simp <;> omega))).trans (show _ = some (.int .i64 mn) by first | assumption | go_simp))
            | (go_at_call 34; (with_reducible refine (HX.out _ extA).mono ?_); rintro e' w5 ⟨cs5, rfl, hm5, hx5⟩; obtain ⟨v5, rfl, hv5, _⟩ := hm5; obtain ⟨a5, n5, c5, rfl⟩ := hv5.slice; clear hv5))
          go_ret
          exact ⟨rfl, extA⟩
        · rw [checkD_put_form rfl H0.out (.inr h1)]
          have t1 : (mn != 0) = true := by simpa using h1
          clear h1
          go_enter Tryz.func39, Tryz.ntmps39
          go_wp2_with (first
            | (go_at_call 55; (with_reducible refine (HR.out _ extA).mono ?_); rintro e' w1 ⟨rfl, hx1⟩; have hz1 := hx1.size; (try simp at hz1); have hb1_0 : w.heap.size < w1.heap.size := (by omega); have p0 := (hx1.cells (w.heap.size) (0) (by first | omega | (simp <;> omega))).trans (show _ = some (.int .i64 1) by first | assumption | go_simp); have p1 := (hx1.cells (w.heap.size) (1) (by first | omega | (simp <;> omega))).trans (show _ = some (.slice a1 n1 c1) by first | assumption | go_simp); have p2 := (hx1.cells (w.heap.size) (2) (by first | omega | (simp <;> omega))).trans (show _ = some (.int .i64 c) by first | assumption | go_simp); have p3 := (hx1.cells (w.heap.size) (3) (by first | omega | (simp <;> omega))).trans (show _ = some (.string s) by first | assumption | go_simp); have p4 := (hx1.cells (w.heap.size) (4) (by first | omega | (simp <;> omega))).trans (show _ = some (.slice a2 n2 c2) by first | assumption | go_simp); have p5 := (hx1.cells (w.heap.size) (5) (by first | omega | (simp <;> omega))).trans (show _ = some (.int .i64 e) by first | assumption | go_simp); have p6 := (hx1.cells (w.heap.size) (6) (by first | omega | (simp <;> omega))).trans (show _ = some (.int .i64 mn) by first | assumption | go_simp))
            | (go_at_call 58; (with_reducible refine (HK.out _ extA).mono ?_); rintro e' w2 ⟨rfl, hx2⟩; have hz2 := hx2.size; (try simp at hz2); have hb2_0 : w.heap.size < w2.heap.size := (by omega); have q0 := (hx2.cells (w.heap.size) (0) (by first | omega | (simp <;> omega))).trans (show _ = some (.int .i64 1) by first | assumption | go_simp); have q1 := (hx2.cells (w.heap.size) (1) (by first | omega | (simp <;> omega))).trans (show _ = some (.slice a1 n1 c1) by first | assumption | go_simp); have q2 := (hx2.cells (w.heap.size) (2) (by first | omega | (simp <;> omega))).trans (show _ = some (.int .i64 c) by first | assumption | go_simp); have q3 := (hx2.cells (w.heap.size) (3) (by first | omega | (simp <;> omega))).trans (show _ = some (.string s) by first | assumption | go_simp); have q4 := (hx2.cells (w.heap.size) (4) (by first | omega | (simp <;> omega))).trans (show _ = some (.slice a2 n2 c2) by first | assumption | go_simp); have q5 := (hx2.cells (w.heap.size) (5) (by first | omega | (simp <;> omega))).trans (show _ = some (.int .i64 e) by first | assumption | go_simp); have q6 := (hx2.cells (w.heap.size) (6) (by first | omega | (simp <;> omega))).trans (show _ = some (.int .i64 mn) by first | assumption | go_simp))
            | (go_at_call 85; (with_reducible refine (HN2.out _ extA).mono ?_); rintro e' w4 ⟨rfl, hx4⟩; have hz4 := hx4.size; (try simp at hz4); have hb4_0 : w.heap.size < w4.heap.size := (by omega); have s0 := (hx4.cells (w.heap.size) (0) (by first | omega | (simp <;> omega))).trans (show _ = some (.int .i64 1) by first | assumption | go_simp); have s1 := (hx4.cells (w.heap.size) (1) (by first | omega | (simp <;> omega))).trans (show _ = some (.slice a1 n1 c1) by first | assumption | go_simp); have s2 := (hx4.cells (w.heap.size) (2) (by first | omega | (simp <;> omega))).trans (show _ = some (.int .i64 c) by first | assumption | go_simp); have s3 := (hx4.cells (w.heap.size) (3) (by first | omega | (simp <;> omega))).trans (show _ = some (.string s) by first | assumption | go_simp); have s4 := (hx4.cells (w.heap.size) (4) (by first | omega | (simp <;> omega))).trans (show _ = some (.slice a2 n2 c2) by first | assumption | go_simp); have s5 := (hx4.cells (w.heap.size) (5) (by first | omega | (simp <;> omega))).trans (show _ = some (.int .i64 e) by first | assumption | go_simp); have s6 := (hx4.cells (w.heap.size) (6) (by first | omega | (simp <;> omega))).trans (show _ = some (.int .i64 mn) by first | assumption | go_simp))
            | (go_at_call 85; (with_reducible refine (HN1.out _ extA).mono ?_); rintro e' w3 ⟨rfl, hx3⟩; have hz3 := hx3.size; (try simp at hz3); have hb3_0 : w.heap.size < w3.heap.size := (by omega); have r0 := (hx3.cells (w.heap.size) (0) (by first | omega | (simp <;> omega))).trans (show _ = some (.int .i64 1) by first | assumption | go_simp); have r1 := (hx3.cells (w.heap.size) (1) (by first | omega | (simp <;> omega))).trans (show _ = some (.slice a1 n1 c1) by first | assumption | go_simp); have r2 := (hx3.cells (w.heap.size) (2) (by first | omega | (simp <;> omega))).trans (show _ = some (.int .i64 c) by first | assumption | go_simp); have r3 := (hx3.cells (w.heap.size) (3) (by first | omega | (simp <;> omega))).trans (show _ = some (.string s) by first | assumption | go_simp); have r4 := (hx3.cells (w.heap.size) (4) (by first | omega | (simp <;> omega))).trans (show _ = some (.slice a2 n2 c2) by first | assumption | go_simp); have r5 := (hx3.cells (w.heap.size) (5) (by first | omega | (simp <;> omega))).trans (show _ = some (.int .i64 e) by first | assumption | go_simp); have r6 := (hx3.cells (w.heap.size) (6) (by first | omega | (simp <;> omega))).trans (show _ = some (.int .i64 mn) by first | assumption | go_simp))
            | (go_at_call 34; (with_reducible refine (HX.out _ extA).mono ?_); rintro e' w5 ⟨cs5, rfl, hm5, hx5⟩; obtain ⟨v5, rfl, hv5, _⟩ := hm5; obtain ⟨a5, n5, c5, rfl⟩ := hv5.slice; clear hv5))
          go_ret
          exact ⟨rfl, extA⟩
    · rw [checkD_put_bad rfl h0]
      simp only
      have t1 : (checkR ((l, c), s.data.toList) != 0) = true := by simpa using h0
      have t2 : (checkR ((l, c), s.data.toList) == 0) = false := by simpa using h0
      generalize checkR ((l, c), s.data.toList) = r at *
      clear h0
      go_enter Tryz.func39, Tryz.ntmps39
      go_wp2_with (first
        | (go_at_call 55; (with_reducible refine (HR.out _ extA).mono ?_); rintro e' w1 ⟨rfl, hx1⟩; have hz1 := hx1.size; (try simp at hz1); have hb1_0 : w.heap.size < w1.heap.size := (by omega); have p0 := (hx1.cells (w.heap.size) (0) (by first | omega | (simp <;> omega))).trans (show _ = some (.int .i64 1) by first | assumption | go_simp); have p1 := (hx1.cells (w.heap.size) (1) (by first | omega | (simp <;> omega))).trans (show _ = some (.slice a1 n1 c1) by first | assumption | go_simp); have p2 := (hx1.cells (w.heap.size) (2) (by first | omega | (simp <;> omega))).trans (show _ = some (.int .i64 c) by first | assumption | go_simp); have p3 := (hx1.cells (w.heap.size) (3) (by first | omega | (simp <;> omega))).trans (show _ = some (.string s) by first | assumption | go_simp); have p4 := (hx1.cells (w.heap.size) (4) (by first | omega | (simp <;> omega))).trans (show _ = some (.slice a2 n2 c2) by first | assumption | go_simp); have p5 := (hx1.cells (w.heap.size) (5) (by first | omega | (simp <;> omega))).trans (show _ = some (.int .i64 e) by first | assumption | go_simp); have p6 := (hx1.cells (w.heap.size) (6) (by first | omega | (simp <;> omega))).trans (show _ = some (.int .i64 mn) by first | assumption | go_simp))
        | (go_at_call 58; (with_reducible refine (HK.out _ extA).mono ?_); rintro e' w2 ⟨rfl, hx2⟩; have hz2 := hx2.size; (try simp at hz2); have hb2_0 : w.heap.size < w2.heap.size := (by omega); have q0 := (hx2.cells (w.heap.size) (0) (by first | omega | (simp <;> omega))).trans (show _ = some (.int .i64 1) by first | assumption | go_simp); have q1 := (hx2.cells (w.heap.size) (1) (by first | omega | (simp <;> omega))).trans (show _ = some (.slice a1 n1 c1) by first | assumption | go_simp); have q2 := (hx2.cells (w.heap.size) (2) (by first | omega | (simp <;> omega))).trans (show _ = some (.int .i64 c) by first | assumption | go_simp); have q3 := (hx2.cells (w.heap.size) (3) (by first | omega | (simp <;> omega))).trans (show _ = some (.string s) by first | assumption | go_simp); have q4 := (hx2.cells (w.heap.size) (4) (by first | omega | (simp <;> omega))).trans (show _ = some (.slice a2 n2 c2) by first | assumption | go_simp); have q5 := (hx2.cells (w.heap.size) (5) (by first | omega | (simp <;> omega))).trans (show _ = some (.int .i64 e) by first | assumption | go_simp); have q6 := (hx2.cells (w.heap.size) (6) (by first | omega | (simp <;> omega))).trans (show _ = some (.int .i64 mn) by first | assumption | go_simp))
        | (go_at_call 85; (with_reducible refine (HN2.out _ extA).mono ?_); rintro e' w4 ⟨rfl, hx4⟩; have hz4 := hx4.size; (try simp at hz4); have hb4_0 : w.heap.size < w4.heap.size := (by omega); have s0 := (hx4.cells (w.heap.size) (0) (by first | omega | (simp <;> omega))).trans (show _ = some (.int .i64 1) by first | assumption | go_simp); have s1 := (hx4.cells (w.heap.size) (1) (by first | omega | (simp <;> omega))).trans (show _ = some (.slice a1 n1 c1) by first | assumption | go_simp); have s2 := (hx4.cells (w.heap.size) (2) (by first | omega | (simp <;> omega))).trans (show _ = some (.int .i64 c) by first | assumption | go_simp); have s3 := (hx4.cells (w.heap.size) (3) (by first | omega | (simp <;> omega))).trans (show _ = some (.string s) by first | assumption | go_simp); have s4 := (hx4.cells (w.heap.size) (4) (by first | omega | (simp <;> omega))).trans (show _ = some (.slice a2 n2 c2) by first | assumption | go_simp); have s5 := (hx4.cells (w.heap.size) (5) (by first | omega | (simp <;> omega))).trans (show _ = some (.int .i64 e) by first | assumption | go_simp); have s6 := (hx4.cells (w.heap.size) (6) (by first | omega | (simp <;> omega))).trans (show _ = some (.int .i64 mn) by first | assumption | go_simp))
        | (go_at_call 85; (with_reducible refine (HN1.out _ extA).mono ?_); rintro e' w3 ⟨rfl, hx3⟩; have hz3 := hx3.size; (try simp at hz3); have hb3_0 : w.heap.size < w3.heap.size := (by omega); have r0 := (hx3.cells (w.heap.size) (0) (by first | omega | (simp <;> omega))).trans (show _ = some (.int .i64 1) by first | assumption | go_simp); have r1 := (hx3.cells (w.heap.size) (1) (by first | omega | (simp <;> omega))).trans (show _ = some (.slice a1 n1 c1) by first | assumption | go_simp); have r2 := (hx3.cells (w.heap.size) (2) (by first | omega | (simp <;> omega))).trans (show _ = some (.int .i64 c) by first | assumption | go_simp); have r3 := (hx3.cells (w.heap.size) (3) (by first | omega | (simp <;> omega))).trans (show _ = some (.string s) by first | assumption | go_simp); have r4 := (hx3.cells (w.heap.size) (4) (by first | omega | (simp <;> omega))).trans (show _ = some (.slice a2 n2 c2) by first | assumption | go_simp); have r5 := (hx3.cells (w.heap.size) (5) (by first | omega | (simp <;> omega))).trans (show _ = some (.int .i64 e) by first | assumption | go_simp); have r6 := (hx3.cells (w.heap.size) (6) (by first | omega | (simp <;> omega))).trans (show _ = some (.int .i64 mn) by first | assumption | go_simp))
        | (go_at_call 34; (with_reducible refine (HX.out _ extA).mono ?_); rintro e' w5 ⟨cs5, rfl, hm5, hx5⟩; obtain ⟨v5, rfl, hv5, _⟩ := hm5; obtain ⟨a5, n5, c5, rfl⟩ := hv5.slice; clear hv5))
      go_ret
      exact ⟨rfl, extA⟩
  · have t0 : (kd == 1) = false := by simpa using k1
    by_cases k2 : kd = 2
    · subst k2
      by_cases h0 : checkM (m, e) = 0
      · have H0 := Lib.hid h0
        rw [h0] at HK
        clear h0
        cases g : noneM (l, c) with
        | false =>
          rw [checkD_take_form k1 rfl H0.out (.inl g)]
          rw [g] at HN1
          clear k1 HN2
          go_enter Tryz.func39, Tryz.ntmps39
          go_wp2_with (first
            | (go_at_call 55; (with_reducible refine (HR.out _ extA).mono ?_); rintro e' w1 ⟨rfl, hx1⟩; have hz1 := hx1.size; (try simp at hz1); have hb1_0 : w.heap.size < w1.heap.size := (by omega); have p0 := (hx1.cells (w.heap.size) (0) (by first | omega | (simp <;> omega))).trans (show _ = some (.int .i64 2) by first | assumption | go_simp); have p1 := (hx1.cells (w.heap.size) (1) (by first | omega | (simp <;> omega))).trans (show _ = some (.slice a1 n1 c1) by first | assumption | go_simp); have p2 := (hx1.cells (w.heap.size) (2) (by first | omega | (simp <;> omega))).trans (show _ = some (.int .i64 c) by first | assumption | go_simp); have p3 := (hx1.cells (w.heap.size) (3) (by first | omega | (simp <;> omega))).trans (show _ = some (.string s) by first | assumption | go_simp); have p4 := (hx1.cells (w.heap.size) (4) (by first | omega | (simp <;> omega))).trans (show _ = some (.slice a2 n2 c2) by first | assumption | go_simp); have p5 := (hx1.cells (w.heap.size) (5) (by first | omega | (simp <;> omega))).trans (show _ = some (.int .i64 e) by first | assumption | go_simp); have p6 := (hx1.cells (w.heap.size) (6) (by first | omega | (simp <;> omega))).trans (show _ = some (.int .i64 mn) by first | assumption | go_simp))
            | (go_at_call 58; (with_reducible refine (HK.out _ extA).mono ?_); rintro e' w2 ⟨rfl, hx2⟩; have hz2 := hx2.size; (try simp at hz2); have hb2_0 : w.heap.size < w2.heap.size := (by omega); have q0 := (hx2.cells (w.heap.size) (0) (by first | omega | (simp <;> omega))).trans (show _ = some (.int .i64 2) by first | assumption | go_simp); have q1 := (hx2.cells (w.heap.size) (1) (by first | omega | (simp <;> omega))).trans (show _ = some (.slice a1 n1 c1) by first | assumption | go_simp); have q2 := (hx2.cells (w.heap.size) (2) (by first | omega | (simp <;> omega))).trans (show _ = some (.int .i64 c) by first | assumption | go_simp); have q3 := (hx2.cells (w.heap.size) (3) (by first | omega | (simp <;> omega))).trans (show _ = some (.string s) by first | assumption | go_simp); have q4 := (hx2.cells (w.heap.size) (4) (by first | omega | (simp <;> omega))).trans (show _ = some (.slice a2 n2 c2) by first | assumption | go_simp); have q5 := (hx2.cells (w.heap.size) (5) (by first | omega | (simp <;> omega))).trans (show _ = some (.int .i64 e) by first | assumption | go_simp); have q6 := (hx2.cells (w.heap.size) (6) (by first | omega | (simp <;> omega))).trans (show _ = some (.int .i64 mn) by first | assumption | go_simp))
            | (go_at_call 85; (with_reducible refine (HN2.out _ extA).mono ?_); rintro e' w4 ⟨rfl, hx4⟩; have hz4 := hx4.size; (try simp at hz4); have hb4_0 : w.heap.size < w4.heap.size := (by omega); have s0 := (hx4.cells (w.heap.size) (0) (by first | omega | (simp <;> omega))).trans (show _ = some (.int .i64 2) by first | assumption | go_simp); have s1 := (hx4.cells (w.heap.size) (1) (by first | omega | (simp <;> omega))).trans (show _ = some (.slice a1 n1 c1) by first | assumption | go_simp); have s2 := (hx4.cells (w.heap.size) (2) (by first | omega | (simp <;> omega))).trans (show _ = some (.int .i64 c) by first | assumption | go_simp); have s3 := (hx4.cells (w.heap.size) (3) (by first | omega | (simp <;> omega))).trans (show _ = some (.string s) by first | assumption | go_simp); have s4 := (hx4.cells (w.heap.size) (4) (by first | omega | (simp <;> omega))).trans (show _ = some (.slice a2 n2 c2) by first | assumption | go_simp); have s5 := (hx4.cells (w.heap.size) (5) (by first | omega | (simp <;> omega))).trans (show _ = some (.int .i64 e) by first | assumption | go_simp); have s6 := (hx4.cells (w.heap.size) (6) (by first | omega | (simp <;> omega))).trans (show _ = some (.int .i64 mn) by first | assumption | go_simp))
            | (go_at_call 85; (with_reducible refine (HN1.out _ extA).mono ?_); rintro e' w3 ⟨rfl, hx3⟩; have hz3 := hx3.size; (try simp at hz3); have hb3_0 : w.heap.size < w3.heap.size := (by omega); have r0 := (hx3.cells (w.heap.size) (0) (by first | omega | (simp <;> omega))).trans (show _ = some (.int .i64 2) by first | assumption | go_simp); have r1 := (hx3.cells (w.heap.size) (1) (by first | omega | (simp <;> omega))).trans (show _ = some (.slice a1 n1 c1) by first | assumption | go_simp); have r2 := (hx3.cells (w.heap.size) (2) (by first | omega | (simp <;> omega))).trans (show _ = some (.int .i64 c) by first | assumption | go_simp); have r3 := (hx3.cells (w.heap.size) (3) (by first | omega | (simp <;> omega))).trans (show _ = some (.string s) by first | assumption | go_simp); have r4 := (hx3.cells (w.heap.size) (4) (by first | omega | (simp <;> omega))).trans (show _ = some (.slice a2 n2 c2) by first | assumption | go_simp); have r5 := (hx3.cells (w.heap.size) (5) (by first | omega | (simp <;> omega))).trans (show _ = some (.int .i64 e) by first | assumption | go_simp); have r6 := (hx3.cells (w.heap.size) (6) (by first | omega | (simp <;> omega))).trans (show _ = some (.int .i64 mn) by first | assumption | go_simp))
            | (go_at_call 34; (with_reducible refine (HX.out _ extA).mono ?_); rintro e' w5 ⟨cs5, rfl, hm5, hx5⟩; obtain ⟨v5, rfl, hv5, _⟩ := hm5; obtain ⟨a5, n5, c5, rfl⟩ := hv5.slice; clear hv5))
          go_ret
          exact ⟨rfl, extA⟩
        | true =>
          rw [g] at HN1
          clear HN2
          by_cases h1 : s.size = 0
          · have t1 : s.toList.isEmpty = true := empty_yes h1
            by_cases h2 : mn < 1 ∨ 60 < mn
            · rw [checkD_take_range k1 rfl H0.out g (bytes_nil h1) h2]
              have t3 : inB mn 1 60 = false := by unfold inB; simp; omega
              rcases h2 with h2 | h2
              · have t2 : decide (mn < 1) = true := decide_eq_true h2
                clear k1 h1
                go_enter Tryz.func39, Tryz.ntmps39
                go_wp2_with (first
                  | (go_at_call 55; (with_reducible refine (HR.out _ extA).mono ?_); rintro e' w1 ⟨rfl, hx1⟩; have hz1 := hx1.size; (try simp at hz1); have hb1_0 : w.heap.size < w1.heap.size := (by omega); have p0 := (hx1.cells (w.heap.size) (0) (by first | omega | (simp <;> omega))).trans (show _ = some (.int .i64 2) by first | assumption | go_simp); have p1 := (hx1.cells (w.heap.size) (1) (by first | omega | (simp <;> omega))).trans (show _ = some (.slice a1 n1 c1) by first | assumption | go_simp); have p2 := (hx1.cells (w.heap.size) (2) (by first | omega | (simp <;> omega))).trans (show _ = some (.int .i64 c) by first | assumption | go_simp); have p3 := (hx1.cells (w.heap.size) (3) (by first | omega | (simp <;> omega))).trans (show _ = some (.string s) by first | assumption | go_simp); have p4 := (hx1.cells (w.heap.size) (4) (by first | omega | (simp <;> omega))).trans (show _ = some (.slice a2 n2 c2) by first | assumption | go_simp); have p5 := (hx1.cells (w.heap.size) (5) (by first | omega | (simp <;> omega))).trans (show _ = some (.int .i64 e) by first | assumption | go_simp); have p6 := (hx1.cells (w.heap.size) (6) (by first | omega | (simp <;> omega))).trans (show _ = some (.int .i64 mn) by first | assumption | go_simp))
                  | (go_at_call 58; (with_reducible refine (HK.out _ extA).mono ?_); rintro e' w2 ⟨rfl, hx2⟩; have hz2 := hx2.size; (try simp at hz2); have hb2_0 : w.heap.size < w2.heap.size := (by omega); have q0 := (hx2.cells (w.heap.size) (0) (by first | omega | (simp <;> omega))).trans (show _ = some (.int .i64 2) by first | assumption | go_simp); have q1 := (hx2.cells (w.heap.size) (1) (by first | omega | (simp <;> omega))).trans (show _ = some (.slice a1 n1 c1) by first | assumption | go_simp); have q2 := (hx2.cells (w.heap.size) (2) (by first | omega | (simp <;> omega))).trans (show _ = some (.int .i64 c) by first | assumption | go_simp); have q3 := (hx2.cells (w.heap.size) (3) (by first | omega | (simp <;> omega))).trans (show _ = some (.string s) by first | assumption | go_simp); have q4 := (hx2.cells (w.heap.size) (4) (by first | omega | (simp <;> omega))).trans (show _ = some (.slice a2 n2 c2) by first | assumption | go_simp); have q5 := (hx2.cells (w.heap.size) (5) (by first | omega | (simp <;> omega))).trans (show _ = some (.int .i64 e) by first | assumption | go_simp); have q6 := (hx2.cells (w.heap.size) (6) (by first | omega | (simp <;> omega))).trans (show _ = some (.int .i64 mn) by first | assumption | go_simp))
                  | (go_at_call 85; (with_reducible refine (HN2.out _ extA).mono ?_); rintro e' w4 ⟨rfl, hx4⟩; have hz4 := hx4.size; (try simp at hz4); have hb4_0 : w.heap.size < w4.heap.size := (by omega); have s0 := (hx4.cells (w.heap.size) (0) (by first | omega | (simp <;> omega))).trans (show _ = some (.int .i64 2) by first | assumption | go_simp); have s1 := (hx4.cells (w.heap.size) (1) (by first | omega | (simp <;> omega))).trans (show _ = some (.slice a1 n1 c1) by first | assumption | go_simp); have s2 := (hx4.cells (w.heap.size) (2) (by first | omega | (simp <;> omega))).trans (show _ = some (.int .i64 c) by first | assumption | go_simp); have s3 := (hx4.cells (w.heap.size) (3) (by first | omega | (simp <;> omega))).trans (show _ = some (.string s) by first | assumption | go_simp); have s4 := (hx4.cells (w.heap.size) (4) (by first | omega | (simp <;> omega))).trans (show _ = some (.slice a2 n2 c2) by first | assumption | go_simp); have s5 := (hx4.cells (w.heap.size) (5) (by first | omega | (simp <;> omega))).trans (show _ = some (.int .i64 e) by first | assumption | go_simp); have s6 := (hx4.cells (w.heap.size) (6) (by first | omega | (simp <;> omega))).trans (show _ = some (.int .i64 mn) by first | assumption | go_simp))
                  | (go_at_call 85; (with_reducible refine (HN1.out _ extA).mono ?_); rintro e' w3 ⟨rfl, hx3⟩; have hz3 := hx3.size; (try simp at hz3); have hb3_0 : w.heap.size < w3.heap.size := (by omega); have r0 := (hx3.cells (w.heap.size) (0) (by first | omega | (simp <;> omega))).trans (show _ = some (.int .i64 2) by first | assumption | go_simp); have r1 := (hx3.cells (w.heap.size) (1) (by first | omega | (simp <;> omega))).trans (show _ = some (.slice a1 n1 c1) by first | assumption | go_simp); have r2 := (hx3.cells (w.heap.size) (2) (by first | omega | (simp <;> omega))).trans (show _ = some (.int .i64 c) by first | assumption | go_simp); have r3 := (hx3.cells (w.heap.size) (3) (by first | omega | (simp <;> omega))).trans (show _ = some (.string s) by first | assumption | go_simp); have r4 := (hx3.cells (w.heap.size) (4) (by first | omega | (simp <;> omega))).trans (show _ = some (.slice a2 n2 c2) by first | assumption | go_simp); have r5 := (hx3.cells (w.heap.size) (5) (by first | omega | (simp <;> omega))).trans (show _ = some (.int .i64 e) by first | assumption | go_simp); have r6 := (hx3.cells (w.heap.size) (6) (by first | omega | (simp <;> omega))).trans (show _ = some (.int .i64 mn) by first | assumption | go_simp))
                  | (go_at_call 34; (with_reducible refine (HX.out _ extA).mono ?_); rintro e' w5 ⟨cs5, rfl, hm5, hx5⟩; obtain ⟨v5, rfl, hv5, _⟩ := hm5; obtain ⟨a5, n5, c5, rfl⟩ := hv5.slice; clear hv5))
                go_ret
                exact ⟨rfl, extA⟩
              · have t2 : decide (mn < 1) = false := decide_eq_false (by omega)
                have t4 : decide (60 < mn) = true := decide_eq_true h2
                clear k1 h1
                go_enter Tryz.func39, Tryz.ntmps39
                go_wp2_with (first
                  | (go_at_call 55; (with_reducible refine (HR.out _ extA).mono ?_); rintro e' w1 ⟨rfl, hx1⟩; have hz1 := hx1.size; (try simp at hz1); have hb1_0 : w.heap.size < w1.heap.size := (by omega); have p0 := (hx1.cells (w.heap.size) (0) (by first | omega | (simp <;> omega))).trans (show _ = some (.int .i64 2) by first | assumption | go_simp); have p1 := (hx1.cells (w.heap.size) (1) (by first | omega | (simp <;> omega))).trans (show _ = some (.slice a1 n1 c1) by first | assumption | go_simp); have p2 := (hx1.cells (w.heap.size) (2) (by first | omega | (simp <;> omega))).trans (show _ = some (.int .i64 c) by first | assumption | go_simp); have p3 := (hx1.cells (w.heap.size) (3) (by first | omega | (simp <;> omega))).trans (show _ = some (.string s) by first | assumption | go_simp); have p4 := (hx1.cells (w.heap.size) (4) (by first | omega | (simp <;> omega))).trans (show _ = some (.slice a2 n2 c2) by first | assumption | go_simp); have p5 := (hx1.cells (w.heap.size) (5) (by first | omega | (simp <;> omega))).trans (show _ = some (.int .i64 e) by first | assumption | go_simp); have p6 := (hx1.cells (w.heap.size) (6) (by first | omega | (simp <;> omega))).trans (show _ = some (.int .i64 mn) by first | assumption | go_simp))
                  | (go_at_call 58; (with_reducible refine (HK.out _ extA).mono ?_); rintro e' w2 ⟨rfl, hx2⟩; have hz2 := hx2.size; (try simp at hz2); have hb2_0 : w.heap.size < w2.heap.size := (by omega); have q0 := (hx2.cells (w.heap.size) (0) (by first | omega | (simp <;> omega))).trans (show _ = some (.int .i64 2) by first | assumption | go_simp); have q1 := (hx2.cells (w.heap.size) (1) (by first | omega | (simp <;> omega))).trans (show _ = some (.slice a1 n1 c1) by first | assumption | go_simp); have q2 := (hx2.cells (w.heap.size) (2) (by first | omega | (simp <;> omega))).trans (show _ = some (.int .i64 c) by first | assumption | go_simp); have q3 := (hx2.cells (w.heap.size) (3) (by first | omega | (simp <;> omega))).trans (show _ = some (.string s) by first | assumption | go_simp); have q4 := (hx2.cells (w.heap.size) (4) (by first | omega | (simp <;> omega))).trans (show _ = some (.slice a2 n2 c2) by first | assumption | go_simp); have q5 := (hx2.cells (w.heap.size) (5) (by first | omega | (simp <;> omega))).trans (show _ = some (.int .i64 e) by first | assumption | go_simp); have q6 := (hx2.cells (w.heap.size) (6) (by first | omega | (simp <;> omega))).trans (show _ = some (.int .i64 mn) by first | assumption | go_simp))
                  | (go_at_call 85; (with_reducible refine (HN2.out _ extA).mono ?_); rintro e' w4 ⟨rfl, hx4⟩; have hz4 := hx4.size; (try simp at hz4); have hb4_0 : w.heap.size < w4.heap.size := (by omega); have s0 := (hx4.cells (w.heap.size) (0) (by first | omega | (simp <;> omega))).trans (show _ = some (.int .i64 2) by first | assumption | go_simp); have s1 := (hx4.cells (w.heap.size) (1) (by first | omega | (simp <;> omega))).trans (show _ = some (.slice a1 n1 c1) by first | assumption | go_simp); have s2 := (hx4.cells (w.heap.size) (2) (by first | omega | (simp <;> omega))).trans (show _ = some (.int .i64 c) by first | assumption | go_simp); have s3 := (hx4.cells (w.heap.size) (3) (by first | omega | (simp <;> omega))).trans (show _ = some (.string s) by first | assumption | go_simp); have s4 := (hx4.cells (w.heap.size) (4) (by first | omega | (simp <;> omega))).trans (show _ = some (.slice a2 n2 c2) by first | assumption | go_simp); have s5 := (hx4.cells (w.heap.size) (5) (by first | omega | (simp <;> omega))).trans (show _ = some (.int .i64 e) by first | assumption | go_simp); have s6 := (hx4.cells (w.heap.size) (6) (by first | omega | (simp <;> omega))).trans (show _ = some (.int .i64 mn) by first | assumption | go_simp))
                  | (go_at_call 85; (with_reducible refine (HN1.out _ extA).mono ?_); rintro e' w3 ⟨rfl, hx3⟩; have hz3 := hx3.size; (try simp at hz3); have hb3_0 : w.heap.size < w3.heap.size := (by omega); have r0 := (hx3.cells (w.heap.size) (0) (by first | omega | (simp <;> omega))).trans (show _ = some (.int .i64 2) by first | assumption | go_simp); have r1 := (hx3.cells (w.heap.size) (1) (by first | omega | (simp <;> omega))).trans (show _ = some (.slice a1 n1 c1) by first | assumption | go_simp); have r2 := (hx3.cells (w.heap.size) (2) (by first | omega | (simp <;> omega))).trans (show _ = some (.int .i64 c) by first | assumption | go_simp); have r3 := (hx3.cells (w.heap.size) (3) (by first | omega | (simp <;> omega))).trans (show _ = some (.string s) by first | assumption | go_simp); have r4 := (hx3.cells (w.heap.size) (4) (by first | omega | (simp <;> omega))).trans (show _ = some (.slice a2 n2 c2) by first | assumption | go_simp); have r5 := (hx3.cells (w.heap.size) (5) (by first | omega | (simp <;> omega))).trans (show _ = some (.int .i64 e) by first | assumption | go_simp); have r6 := (hx3.cells (w.heap.size) (6) (by first | omega | (simp <;> omega))).trans (show _ = some (.int .i64 mn) by first | assumption | go_simp))
                  | (go_at_call 34; (with_reducible refine (HX.out _ extA).mono ?_); rintro e' w5 ⟨cs5, rfl, hm5, hx5⟩; obtain ⟨v5, rfl, hv5, _⟩ := hm5; obtain ⟨a5, n5, c5, rfl⟩ := hv5.slice; clear hv5))
                go_ret
                exact ⟨rfl, extA⟩
            · rw [checkD_take_next k1 rfl H0.out g (bytes_nil h1) h2]
              have t3 : inB mn 1 60 = true := by unfold inB; simp; omega
              have t2 : decide (mn < 1) = false := decide_eq_false (by omega)
              have t4 : decide (60 < mn) = false := decide_eq_false (by omega)
              have b1 : 1 ≤ mn := by omega
              have b2 : mn ≤ 60 := by omega
              clear k1 h1 h2
              simp only
              generalize nextM (m, e) (mn - 1) = nx at *
              obtain ⟨⟨np, nc⟩, er⟩ := nx
              simp only at HX ⊢
              go_enter Tryz.func39, Tryz.ntmps39
              go_wp2_with (first
                | (go_at_call 55; (with_reducible refine (HR.out _ extA).mono ?_); rintro e' w1 ⟨rfl, hx1⟩; have hz1 := hx1.size; (try simp at hz1); have hb1_0 : w.heap.size < w1.heap.size := (by omega); have p0 := (hx1.cells (w.heap.size) (0) (by first | omega | (simp <;> omega))).trans (show _ = some (.int .i64 2) by first | assumption | go_simp); have p1 := (hx1.cells (w.heap.size) (1) (by first | omega | (simp <;> omega))).trans (show _ = some (.slice a1 n1 c1) by first | assumption | go_simp); have p2 := (hx1.cells (w.heap.size) (2) (by first | omega | (simp <;> omega))).trans (show _ = some (.int .i64 c) by first | assumption | go_simp); have p3 := (hx1.cells (w.heap.size) (3) (by first | omega | (simp <;> omega))).trans (show _ = some (.string s) by first | assumption | go_simp); have p4 := (hx1.cells (w.heap.size) (4) (by first | omega | (simp <;> omega))).trans (show _ = some (.slice a2 n2 c2) by first | assumption | go_simp); have p5 := (hx1.cells (w.heap.size) (5) (by first | omega | (simp <;> omega))).trans (show _ = some (.int .i64 e) by first | assumption | go_simp); have p6 := (hx1.cells (w.heap.size) (6) (by first | omega | (simp <;> omega))).trans (show _ = some (.int .i64 mn) by first | assumption | go_simp))
                | (go_at_call 58; (with_reducible refine (HK.out _ extA).mono ?_); rintro e' w2 ⟨rfl, hx2⟩; have hz2 := hx2.size; (try simp at hz2); have hb2_0 : w.heap.size < w2.heap.size := (by omega); have q0 := (hx2.cells (w.heap.size) (0) (by first | omega | (simp <;> omega))).trans (show _ = some (.int .i64 2) by first | assumption | go_simp); have q1 := (hx2.cells (w.heap.size) (1) (by first | omega | (simp <;> omega))).trans (show _ = some (.slice a1 n1 c1) by first | assumption | go_simp); have q2 := (hx2.cells (w.heap.size) (2) (by first | omega | (simp <;> omega))).trans (show _ = some (.int .i64 c) by first | assumption | go_simp); have q3 := (hx2.cells (w.heap.size) (3) (by first | omega | (simp <;> omega))).trans (show _ = some (.string s) by first | assumption | go_simp); have q4 := (hx2.cells (w.heap.size) (4) (by first | omega | (simp <;> omega))).trans (show _ = some (.slice a2 n2 c2) by first | assumption | go_simp); have q5 := (hx2.cells (w.heap.size) (5) (by first | omega | (simp <;> omega))).trans (show _ = some (.int .i64 e) by first | assumption | go_simp); have q6 := (hx2.cells (w.heap.size) (6) (by first | omega | (simp <;> omega))).trans (show _ = some (.int .i64 mn) by first | assumption | go_simp))
                | (go_at_call 85; (with_reducible refine (HN2.out _ extA).mono ?_); rintro e' w4 ⟨rfl, hx4⟩; have hz4 := hx4.size; (try simp at hz4); have hb4_0 : w.heap.size < w4.heap.size := (by omega); have s0 := (hx4.cells (w.heap.size) (0) (by first | omega | (simp <;> omega))).trans (show _ = some (.int .i64 2) by first | assumption | go_simp); have s1 := (hx4.cells (w.heap.size) (1) (by first | omega | (simp <;> omega))).trans (show _ = some (.slice a1 n1 c1) by first | assumption | go_simp); have s2 := (hx4.cells (w.heap.size) (2) (by first | omega | (simp <;> omega))).trans (show _ = some (.int .i64 c) by first | assumption | go_simp); have s3 := (hx4.cells (w.heap.size) (3) (by first | omega | (simp <;> omega))).trans (show _ = some (.string s) by first | assumption | go_simp); have s4 := (hx4.cells (w.heap.size) (4) (by first | omega | (simp <;> omega))).trans (show _ = some (.slice a2 n2 c2) by first | assumption | go_simp); have s5 := (hx4.cells (w.heap.size) (5) (by first | omega | (simp <;> omega))).trans (show _ = some (.int .i64 e) by first | assumption | go_simp); have s6 := (hx4.cells (w.heap.size) (6) (by first | omega | (simp <;> omega))).trans (show _ = some (.int .i64 mn) by first | assumption | go_simp))
                | (go_at_call 85; (with_reducible refine (HN1.out _ extA).mono ?_); rintro e' w3 ⟨rfl, hx3⟩; have hz3 := hx3.size; (try simp at hz3); have hb3_0 : w.heap.size < w3.heap.size := (by omega); have r0 := (hx3.cells (w.heap.size) (0) (by first | omega | (simp <;> omega))).trans (show _ = some (.int .i64 2) by first | assumption | go_simp); have r1 := (hx3.cells (w.heap.size) (1) (by first | omega | (simp <;> omega))).trans (show _ = some (.slice a1 n1 c1) by first | assumption | go_simp); have r2 := (hx3.cells (w.heap.size) (2) (by first | omega | (simp <;> omega))).trans (show _ = some (.int .i64 c) by first | assumption | go_simp); have r3 := (hx3.cells (w.heap.size) (3) (by first | omega | (simp <;> omega))).trans (show _ = some (.string s) by first | assumption | go_simp); have r4 := (hx3.cells (w.heap.size) (4) (by first | omega | (simp <;> omega))).trans (show _ = some (.slice a2 n2 c2) by first | assumption | go_simp); have r5 := (hx3.cells (w.heap.size) (5) (by first | omega | (simp <;> omega))).trans (show _ = some (.int .i64 e) by first | assumption | go_simp); have r6 := (hx3.cells (w.heap.size) (6) (by first | omega | (simp <;> omega))).trans (show _ = some (.int .i64 mn) by first | assumption | go_simp))
                | (go_at_call 34; (with_reducible refine (HX.out _ extA).mono ?_); rintro e' w5 ⟨cs5, rfl, hm5, hx5⟩; obtain ⟨v5, rfl, hv5, _⟩ := hm5; obtain ⟨a5, n5, c5, rfl⟩ := hv5.slice; clear hv5))
              go_ret
              exact ⟨rfl, extA⟩
          · rw [checkD_take_form k1 rfl H0.out (.inr (bytes_cons h1))]
            have t1 : s.toList.isEmpty = false := empty_no h1
            clear k1 h1
            go_enter Tryz.func39, Tryz.ntmps39
            go_wp2_with (first
              | (go_at_call 55; (with_reducible refine (HR.out _ extA).mono ?_); rintro e' w1 ⟨rfl, hx1⟩; have hz1 := hx1.size; (try simp at hz1); have hb1_0 : w.heap.size < w1.heap.size := (by omega); have p0 := (hx1.cells (w.heap.size) (0) (by first | omega | (simp <;> omega))).trans (show _ = some (.int .i64 2) by first | assumption | go_simp); have p1 := (hx1.cells (w.heap.size) (1) (by first | omega | (simp <;> omega))).trans (show _ = some (.slice a1 n1 c1) by first | assumption | go_simp); have p2 := (hx1.cells (w.heap.size) (2) (by first | omega | (simp <;> omega))).trans (show _ = some (.int .i64 c) by first | assumption | go_simp); have p3 := (hx1.cells (w.heap.size) (3) (by first | omega | (simp <;> omega))).trans (show _ = some (.string s) by first | assumption | go_simp); have p4 := (hx1.cells (w.heap.size) (4) (by first | omega | (simp <;> omega))).trans (show _ = some (.slice a2 n2 c2) by first | assumption | go_simp); have p5 := (hx1.cells (w.heap.size) (5) (by first | omega | (simp <;> omega))).trans (show _ = some (.int .i64 e) by first | assumption | go_simp); have p6 := (hx1.cells (w.heap.size) (6) (by first | omega | (simp <;> omega))).trans (show _ = some (.int .i64 mn) by first | assumption | go_simp))
              | (go_at_call 58; (with_reducible refine (HK.out _ extA).mono ?_); rintro e' w2 ⟨rfl, hx2⟩; have hz2 := hx2.size; (try simp at hz2); have hb2_0 : w.heap.size < w2.heap.size := (by omega); have q0 := (hx2.cells (w.heap.size) (0) (by first | omega | (simp <;> omega))).trans (show _ = some (.int .i64 2) by first | assumption | go_simp); have q1 := (hx2.cells (w.heap.size) (1) (by first | omega | (simp <;> omega))).trans (show _ = some (.slice a1 n1 c1) by first | assumption | go_simp); have q2 := (hx2.cells (w.heap.size) (2) (by first | omega | (simp <;> omega))).trans (show _ = some (.int .i64 c) by first | assumption | go_simp); have q3 := (hx2.cells (w.heap.size) (3) (by first | omega | (simp <;> omega))).trans (show _ = some (.string s) by first | assumption | go_simp); have q4 := (hx2.cells (w.heap.size) (4) (by first | omega | (simp <;> omega))).trans (show _ = some (.slice a2 n2 c2) by first | assumption | go_simp); have q5 := (hx2.cells (w.heap.size) (5) (by first | omega | (simp <;> omega))).trans (show _ = some (.int .i64 e) by first | assumption | go_simp); have q6 := (hx2.cells (w.heap.size) (6) (by first | omega | (simp <;> omega))).trans (show _ = some (.int .i64 mn) by first | assumption | go_simp))
              | (go_at_call 85; (with_reducible refine (HN2.out _ extA).mono ?_); rintro e' w4 ⟨rfl, hx4⟩; have hz4 := hx4.size; (try simp at hz4); have hb4_0 : w.heap.size < w4.heap.size := (by omega); have s0 := (hx4.cells (w.heap.size) (0) (by first | omega | (simp <;> omega))).trans (show _ = some (.int .i64 2) by first | assumption | go_simp); have s1 := (hx4.cells (w.heap.size) (1) (by first | omega | (simp <;> omega))).trans (show _ = some (.slice a1 n1 c1) by first | assumption | go_simp); have s2 := (hx4.cells (w.heap.size) (2) (by first | omega | (simp <;> omega))).trans (show _ = some (.int .i64 c) by first | assumption | go_simp); have s3 := (hx4.cells (w.heap.size) (3) (by first | omega | (simp <;> omega))).trans (show _ = some (.string s) by first | assumption | go_simp); have s4 := (hx4.cells (w.heap.size) (4) (by first | omega | (simp <;> omega))).trans (show _ = some (.slice a2 n2 c2) by first | assumption | go_simp); have s5 := (hx4.cells (w.heap.size) (5) (by first | omega | (simp <;> omega))).trans (show _ = some (.int .i64 e) by first | assumption | go_simp); have s6 := (hx4.cells (w.heap.size) (6) (by first | omega | (simp <;> omega))).trans (show _ = some (.int .i64 mn) by first | assumption | go_simp))
              | (go_at_call 85; (with_reducible refine (HN1.out _ extA).mono ?_); rintro e' w3 ⟨rfl, hx3⟩; have hz3 := hx3.size; (try simp at hz3); have hb3_0 : w.heap.size < w3.heap.size := (by omega); have r0 := (hx3.cells (w.heap.size) (0) (by first | omega | (simp <;> omega))).trans (show _ = some (.int .i64 2) by first | assumption | go_simp); have r1 := (hx3.cells (w.heap.size) (1) (by first | omega | (simp <;> omega))).trans (show _ = some (.slice a1 n1 c1) by first | assumption | go_simp); have r2 := (hx3.cells (w.heap.size) (2) (by first | omega | (simp <;> omega))).trans (show _ = some (.int .i64 c) by first | assumption | go_simp); have r3 := (hx3.cells (w.heap.size) (3) (by first | omega | (simp <;> omega))).trans (show _ = some (.string s) by first | assumption | go_simp); have r4 := (hx3.cells (w.heap.size) (4) (by first | omega | (simp <;> omega))).trans (show _ = some (.slice a2 n2 c2) by first | assumption | go_simp); have r5 := (hx3.cells (w.heap.size) (5) (by first | omega | (simp <;> omega))).trans (show _ = some (.int .i64 e) by first | assumption | go_simp); have r6 := (hx3.cells (w.heap.size) (6) (by first | omega | (simp <;> omega))).trans (show _ = some (.int .i64 mn) by first | assumption | go_simp))
              | (go_at_call 34; (with_reducible refine (HX.out _ extA).mono ?_); rintro e' w5 ⟨cs5, rfl, hm5, hx5⟩; obtain ⟨v5, rfl, hv5, _⟩ := hm5; obtain ⟨a5, n5, c5, rfl⟩ := hv5.slice; clear hv5))
            go_ret
            exact ⟨rfl, extA⟩
      · rw [checkD_take_bad k1 rfl h0]
        simp only
        have t1 : (checkM (m, e) != 0) = true := by simpa using h0
        generalize checkM (m, e) = r at *
        clear h0 k1
        go_enter Tryz.func39, Tryz.ntmps39
        go_wp2_with (first
          | (go_at_call 55; (with_reducible refine (HR.out _ extA).mono ?_); rintro e' w1 ⟨rfl, hx1⟩; have hz1 := hx1.size; (try simp at hz1); have hb1_0 : w.heap.size < w1.heap.size := (by omega); have p0 := (hx1.cells (w.heap.size) (0) (by first | omega | (simp <;> omega))).trans (show _ = some (.int .i64 2) by first | assumption | go_simp); have p1 := (hx1.cells (w.heap.size) (1) (by first | omega | (simp <;> omega))).trans (show _ = some (.slice a1 n1 c1) by first | assumption | go_simp); have p2 := (hx1.cells (w.heap.size) (2) (by first | omega | (simp <;> omega))).trans (show _ = some (.int .i64 c) by first | assumption | go_simp); have p3 := (hx1.cells (w.heap.size) (3) (by first | omega | (simp <;> omega))).trans (show _ = some (.string s) by first | assumption | go_simp); have p4 := (hx1.cells (w.heap.size) (4) (by first | omega | (simp <;> omega))).trans (show _ = some (.slice a2 n2 c2) by first | assumption | go_simp); have p5 := (hx1.cells (w.heap.size) (5) (by first | omega | (simp <;> omega))).trans (show _ = some (.int .i64 e) by first | assumption | go_simp); have p6 := (hx1.cells (w.heap.size) (6) (by first | omega | (simp <;> omega))).trans (show _ = some (.int .i64 mn) by first | assumption | go_simp))
          | (go_at_call 58; (with_reducible refine (HK.out _ extA).mono ?_); rintro e' w2 ⟨rfl, hx2⟩; have hz2 := hx2.size; (try simp at hz2); have hb2_0 : w.heap.size < w2.heap.size := (by omega); have q0 := (hx2.cells (w.heap.size) (0) (by first | omega | (simp <;> omega))).trans (show _ = some (.int .i64 2) by first | assumption | go_simp); have q1 := (hx2.cells (w.heap.size) (1) (by first | omega | (simp <;> omega))).trans (show _ = some (.slice a1 n1 c1) by first | assumption | go_simp); have q2 := (hx2.cells (w.heap.size) (2) (by first | omega | (simp <;> omega))).trans (show _ = some (.int .i64 c) by first | assumption | go_simp); have q3 := (hx2.cells (w.heap.size) (3) (by first | omega | (simp <;> omega))).trans (show _ = some (.string s) by first | assumption | go_simp); have q4 := (hx2.cells (w.heap.size) (4) (by first | omega | (simp <;> omega))).trans (show _ = some (.slice a2 n2 c2) by first | assumption | go_simp); have q5 := (hx2.cells (w.heap.size) (5) (by first | omega | (simp <;> omega))).trans (show _ = some (.int .i64 e) by first | assumption | go_simp); have q6 := (hx2.cells (w.heap.size) (6) (by first | omega | (simp <;> omega))).trans (show _ = some (.int .i64 mn) by first | assumption | go_simp))
          | (go_at_call 85; (with_reducible refine (HN2.out _ extA).mono ?_); rintro e' w4 ⟨rfl, hx4⟩; have hz4 := hx4.size; (try simp at hz4); have hb4_0 : w.heap.size < w4.heap.size := (by omega); have s0 := (hx4.cells (w.heap.size) (0) (by first | omega | (simp <;> omega))).trans (show _ = some (.int .i64 2) by first | assumption | go_simp); have s1 := (hx4.cells (w.heap.size) (1) (by first | omega | (simp <;> omega))).trans (show _ = some (.slice a1 n1 c1) by first | assumption | go_simp); have s2 := (hx4.cells (w.heap.size) (2) (by first | omega | (simp <;> omega))).trans (show _ = some (.int .i64 c) by first | assumption | go_simp); have s3 := (hx4.cells (w.heap.size) (3) (by first | omega | (simp <;> omega))).trans (show _ = some (.string s) by first | assumption | go_simp); have s4 := (hx4.cells (w.heap.size) (4) (by first | omega | (simp <;> omega))).trans (show _ = some (.slice a2 n2 c2) by first | assumption | go_simp); have s5 := (hx4.cells (w.heap.size) (5) (by first | omega | (simp <;> omega))).trans (show _ = some (.int .i64 e) by first | assumption | go_simp); have s6 := (hx4.cells (w.heap.size) (6) (by first | omega | (simp <;> omega))).trans (show _ = some (.int .i64 mn) by first | assumption | go_simp))
          | (go_at_call 85; (with_reducible refine (HN1.out _ extA).mono ?_); rintro e' w3 ⟨rfl, hx3⟩; have hz3 := hx3.size; (try simp at hz3); have hb3_0 : w.heap.size < w3.heap.size := (by omega); have r0 := (hx3.cells (w.heap.size) (0) (by first | omega | (simp <;> omega))).trans (show _ = some (.int .i64 2) by first | assumption | go_simp); have r1 := (hx3.cells (w.heap.size) (1) (by first | omega | (simp <;> omega))).trans (show _ = some (.slice a1 n1 c1) by first | assumption | go_simp); have r2 := (hx3.cells (w.heap.size) (2) (by first | omega | (simp <;> omega))).trans (show _ = some (.int .i64 c) by first | assumption | go_simp); have r3 := (hx3.cells (w.heap.size) (3) (by first | omega | (simp <;> omega))).trans (show _ = some (.string s) by first | assumption | go_simp); have r4 := (hx3.cells (w.heap.size) (4) (by first | omega | (simp <;> omega))).trans (show _ = some (.slice a2 n2 c2) by first | assumption | go_simp); have r5 := (hx3.cells (w.heap.size) (5) (by first | omega | (simp <;> omega))).trans (show _ = some (.int .i64 e) by first | assumption | go_simp); have r6 := (hx3.cells (w.heap.size) (6) (by first | omega | (simp <;> omega))).trans (show _ = some (.int .i64 mn) by first | assumption | go_simp))
          | (go_at_call 34; (with_reducible refine (HX.out _ extA).mono ?_); rintro e' w5 ⟨cs5, rfl, hm5, hx5⟩; obtain ⟨v5, rfl, hv5, _⟩ := hm5; obtain ⟨a5, n5, c5, rfl⟩ := hv5.slice; clear hv5))
        go_ret
        exact ⟨rfl, extA⟩
    · rw [checkD_kind k1 k2]
      have t1 : (kd == 2) = false := by simpa using k2
      have t2 : (kd != 2) = true := by simpa using k2
      clear k1 k2
      go_enter Tryz.func39, Tryz.ntmps39
      go_wp2_with (first
        | (go_at_call 55; (with_reducible refine (HR.out _ extA).mono ?_); rintro e' w1 ⟨rfl, hx1⟩; have hz1 := hx1.size; (try simp at hz1); have hb1_0 : w.heap.size < w1.heap.size := (by omega); have p0 := (hx1.cells (w.heap.size) (0) (by first | omega | (simp <;> omega))).trans (show _ = some (.int .i64 kd) by first | assumption | go_simp); have p1 := (hx1.cells (w.heap.size) (1) (by first | omega | (simp <;> omega))).trans (show _ = some (.slice a1 n1 c1) by first | assumption | go_simp); have p2 := (hx1.cells (w.heap.size) (2) (by first | omega | (simp <;> omega))).trans (show _ = some (.int .i64 c) by first | assumption | go_simp); have p3 := (hx1.cells (w.heap.size) (3) (by first | omega | (simp <;> omega))).trans (show _ = some (.string s) by first | assumption | go_simp); have p4 := (hx1.cells (w.heap.size) (4) (by first | omega | (simp <;> omega))).trans (show _ = some (.slice a2 n2 c2) by first | assumption | go_simp); have p5 := (hx1.cells (w.heap.size) (5) (by first | omega | (simp <;> omega))).trans (show _ = some (.int .i64 e) by first | assumption | go_simp); have p6 := (hx1.cells (w.heap.size) (6) (by first | omega | (simp <;> omega))).trans (show _ = some (.int .i64 mn) by first | assumption | go_simp))
        | (go_at_call 58; (with_reducible refine (HK.out _ extA).mono ?_); rintro e' w2 ⟨rfl, hx2⟩; have hz2 := hx2.size; (try simp at hz2); have hb2_0 : w.heap.size < w2.heap.size := (by omega); have q0 := (hx2.cells (w.heap.size) (0) (by first | omega | (simp <;> omega))).trans (show _ = some (.int .i64 kd) by first | assumption | go_simp); have q1 := (hx2.cells (w.heap.size) (1) (by first | omega | (simp <;> omega))).trans (show _ = some (.slice a1 n1 c1) by first | assumption | go_simp); have q2 := (hx2.cells (w.heap.size) (2) (by first | omega | (simp <;> omega))).trans (show _ = some (.int .i64 c) by first | assumption | go_simp); have q3 := (hx2.cells (w.heap.size) (3) (by first | omega | (simp <;> omega))).trans (show _ = some (.string s) by first | assumption | go_simp); have q4 := (hx2.cells (w.heap.size) (4) (by first | omega | (simp <;> omega))).trans (show _ = some (.slice a2 n2 c2) by first | assumption | go_simp); have q5 := (hx2.cells (w.heap.size) (5) (by first | omega | (simp <;> omega))).trans (show _ = some (.int .i64 e) by first | assumption | go_simp); have q6 := (hx2.cells (w.heap.size) (6) (by first | omega | (simp <;> omega))).trans (show _ = some (.int .i64 mn) by first | assumption | go_simp))
        | (go_at_call 85; (with_reducible refine (HN2.out _ extA).mono ?_); rintro e' w4 ⟨rfl, hx4⟩; have hz4 := hx4.size; (try simp at hz4); have hb4_0 : w.heap.size < w4.heap.size := (by omega); have s0 := (hx4.cells (w.heap.size) (0) (by first | omega | (simp <;> omega))).trans (show _ = some (.int .i64 kd) by first | assumption | go_simp); have s1 := (hx4.cells (w.heap.size) (1) (by first | omega | (simp <;> omega))).trans (show _ = some (.slice a1 n1 c1) by first | assumption | go_simp); have s2 := (hx4.cells (w.heap.size) (2) (by first | omega | (simp <;> omega))).trans (show _ = some (.int .i64 c) by first | assumption | go_simp); have s3 := (hx4.cells (w.heap.size) (3) (by first | omega | (simp <;> omega))).trans (show _ = some (.string s) by first | assumption | go_simp); have s4 := (hx4.cells (w.heap.size) (4) (by first | omega | (simp <;> omega))).trans (show _ = some (.slice a2 n2 c2) by first | assumption | go_simp); have s5 := (hx4.cells (w.heap.size) (5) (by first | omega | (simp <;> omega))).trans (show _ = some (.int .i64 e) by first | assumption | go_simp); have s6 := (hx4.cells (w.heap.size) (6) (by first | omega | (simp <;> omega))).trans (show _ = some (.int .i64 mn) by first | assumption | go_simp))
        | (go_at_call 85; (with_reducible refine (HN1.out _ extA).mono ?_); rintro e' w3 ⟨rfl, hx3⟩; have hz3 := hx3.size; (try simp at hz3); have hb3_0 : w.heap.size < w3.heap.size := (by omega); have r0 := (hx3.cells (w.heap.size) (0) (by first | omega | (simp <;> omega))).trans (show _ = some (.int .i64 kd) by first | assumption | go_simp); have r1 := (hx3.cells (w.heap.size) (1) (by first | omega | (simp <;> omega))).trans (show _ = some (.slice a1 n1 c1) by first | assumption | go_simp); have r2 := (hx3.cells (w.heap.size) (2) (by first | omega | (simp <;> omega))).trans (show _ = some (.int .i64 c) by first | assumption | go_simp); have r3 := (hx3.cells (w.heap.size) (3) (by first | omega | (simp <;> omega))).trans (show _ = some (.string s) by first | assumption | go_simp); have r4 := (hx3.cells (w.heap.size) (4) (by first | omega | (simp <;> omega))).trans (show _ = some (.slice a2 n2 c2) by first | assumption | go_simp); have r5 := (hx3.cells (w.heap.size) (5) (by first | omega | (simp <;> omega))).trans (show _ = some (.int .i64 e) by first | assumption | go_simp); have r6 := (hx3.cells (w.heap.size) (6) (by first | omega | (simp <;> omega))).trans (show _ = some (.int .i64 mn) by first | assumption | go_simp))
        | (go_at_call 34; (with_reducible refine (HX.out _ extA).mono ?_); rintro e' w5 ⟨cs5, rfl, hm5, hx5⟩; obtain ⟨v5, rfl, hv5, _⟩ := hm5; obtain ⟨a5, n5, c5, rfl⟩ := hv5.slice; clear hv5))
      go_ret
      exact ⟨rfl, extA⟩
end Go.Proofs.YtfgfdohppgoajaaGreat
/- What is wrong with a list of deeds; a deed where it lies. -/
namespace Go.Proofs.YtfgfdohppgoajaaGreat
open Go Go.RowKit Go.BigFrame Cp

def checkDL : List De → Int
  | [] => 0
  | d :: r => if checkD d ≠ 0 then checkD d else checkDL r
theorem checkDL_bad {l : List De} {k : Nat} {d : De} (h : l[k]? = some d) (h1 : ¬ checkD d = 0) : checkDL (l.drop k) = checkD d := by rw [drop_at h]; unfold checkDL; rw [if_pos h1]
theorem checkDL_next {l : List De} {k : Nat} {d : De} (h : l[k]? = some d) (h1 : checkD d = 0) : checkDL (l.drop k) = checkDL (l.drop (k + 1)) := by
  rw [drop_at h]
  conv => lhs; unfold checkDL
  rw [if_neg (by simpa using h1)]
theorem checkDL_end {l : List De} {k : Nat} (h : l.length ≤ k) : checkDL (l.drop k) = 0 := by rw [List.drop_eq_nil_of_le h]; rfl
theorem deed_at {F : Nat → Prop} {w : World} {a : Option Addr} {n cap : Nat} {q : List De} (h : RSl RDe 7 F w (.slice a n cap) q) {i : Nat} (hi : i < n) :
    ∃ b o d a1 n1 c1 a2 n2 c2 s, a = some ⟨b, o, none⟩ ∧ b < w.heap.size ∧ q[i]? = some d ∧
      RDe F w [.int .i64 d.kind, .slice a1 n1 c1, .int .i64 d.run.1.2, .string s, .slice a2 n2 c2, .int .i64 d.mark.2, .int .i64 d.many] d ∧
      w.cell? ⟨b, o + i * 7, none⟩ = some (.int .i64 d.kind) ∧ w.cell? ⟨b, o + i * 7 + 1, none⟩ = some (.slice a1 n1 c1) ∧ w.cell? ⟨b, o + i * 7 + 2, none⟩ = some (.int .i64 d.run.1.2) ∧
      w.cell? ⟨b, o + i * 7 + 3, none⟩ = some (.string s) ∧ w.cell? ⟨b, o + i * 7 + 4, none⟩ = some (.slice a2 n2 c2) ∧ w.cell? ⟨b, o + i * 7 + 5, none⟩ = some (.int .i64 d.mark.2) ∧ w.cell? ⟨b, o + i * 7 + 6, none⟩ = some (.int .i64 d.many) := by
  obtain ⟨b, o, d, cs, e1, e2, e3, _, e4, hd⟩ := h.at_ hi
  have hd' := hd
  obtain ⟨v, x, u, rfl, h1, h2, h3, h4, h5, h6, h7⟩ := hd
  obtain ⟨a1, n1, c1, rfl⟩ := h2.slice
  obtain ⟨a2, n2, c2, rfl⟩ := h5.slice
  obtain ⟨s, rfl, _⟩ := tx_bytes h4
  exact ⟨b, o, d, a1, n1, c1, a2, n2, c2, s, e1, e2, e3, hd', by simpa using e4 0 _ rfl, by simpa [Nat.add_assoc] using e4 1 _ rfl, by simpa [Nat.add_assoc] using e4 2 _ rfl, by simpa [Nat.add_assoc] using e4 3 _ rfl, by simpa [Nat.add_assoc] using e4 4 _ rfl, by simpa [Nat.add_assoc] using e4 5 _ rfl, by simpa [Nat.add_assoc] using e4 6 _ rfl⟩
end Go.Proofs.YtfgfdohppgoajaaGreat
/- Plain facts on deeds that are done, one by one: what is right stays right; what an errno tells. -/
namespace Go.Proofs.YtfgfdohppgoajaaGreat
open Go Go.RowKit Cp

/-- a state that is right, but for how much it is -/
def RightS (s : St) : Prop := RightA s.1 ∧ SortedG s.2 ∧ (∀ m ∈ s.2, checkM m = 0) ∧ ∀ m ∈ s.2, hasM s.1 m = false
/-- a state that is right -/
def FitS (s : St) : Prop := RightS s ∧ s.1.length ≤ 300 ∧ s.2.length ≤ 600
theorem hasM_iff {l : List At} {m : Mk} : hasM l m = true ↔ ∃ a ∈ l, a.1 = m := by
  unfold hasM
  rw [List.any_eq_true]
  constructor
  · rintro ⟨a, ha, h⟩
    exact ⟨a, ha, ordM_zero.1 (by simpa using h)⟩
  · rintro ⟨a, ha, h⟩
    exact ⟨a, ha, by simpa using ordM_zero.2 h⟩
theorem hasG_iff {l : List Mk} {m : Mk} : hasG l m = true ↔ m ∈ l := by
  unfold hasG
  rw [List.any_eq_true]
  constructor
  · rintro ⟨a, ha, h⟩
    have : a = m := ordM_zero.1 (by simpa using h)
    exact this ▸ ha
  · intro h
    exact ⟨m, h, by simpa using ordM_zero.2 rfl⟩
theorem hasM_false {l : List At} {m : Mk} : hasM l m = false ↔ ∀ a ∈ l, a.1 ≠ m := by
  rw [← Bool.not_eq_true, hasM_iff]
  exact ⟨fun h a ha e => h ⟨a, ha, e⟩, fun h ⟨a, ha, e⟩ => h a ha e⟩
theorem checkGF_right : ∀ {l : List Mk} {ats : List At} {p : Option Mk}, checkGF ats p l = 0 ↔ (SortedG (match p with | none => l | some q => q :: l) ∨ (l = [] ∧ True)) ∧ (∀ m ∈ l, checkM m = 0) ∧ ∀ m ∈ l, hasM ats m = false
  | [], ats, p => by simp [checkGF]
  | m :: l, ats, p => by
    unfold checkGF
    by_cases h1 : checkM m = 0
    · rw [if_neg (by simpa using h1)]
      have ih := @checkGF_right l ats (some m)
      simp only at ih
      cases p with
      | none =>
        cases hm : hasM ats m with
        | true => simp [hm]
        | false =>
          simp only [hm, Bool.false_eq_true, or_false, false_or, if_false, reduceCtorEq, and_true]
          rw [ih]
          simp only [List.mem_cons, forall_eq_or_imp, h1, hm, true_and, and_true, reduceCtorEq, false_and, or_false]
          constructor
          · rintro ⟨h, h2, h3⟩
            rcases h with h | rfl
            · exact ⟨h, h2, h3⟩
            · exact ⟨trivial, h2, h3⟩
          · rintro ⟨h, h2, h3⟩; exact ⟨.inl h, h2, h3⟩
      | some q =>
        cases hm : hasM ats m with
        | true => simp [hm]
        | false =>
          by_cases h2 : ordM q m = -1
          · have h3 : ¬ 0 ≤ ordM q m := by omega
            simp only [hm, h3, Bool.false_eq_true, or_false, false_or, if_false, decide_false]
            rw [ih]
            simp only [List.mem_cons, forall_eq_or_imp, h1, hm, true_and, and_true, reduceCtorEq, false_and, or_false]
            constructor
            · rintro ⟨h, h4, h5⟩
              rcases h with h | rfl
              · exact ⟨⟨h2, h⟩, h4, h5⟩
              · exact ⟨⟨h2, trivial⟩, h4, h5⟩
            · rintro ⟨h, h4, h5⟩; exact ⟨.inl h.2, h4, h5⟩
          · have h3 : 0 ≤ ordM q m := by rcases ordM_range q m with h | h | h <;> omega
            simp only [h3, true_or, if_true]
            constructor
            · intro h; cases h
            · rintro ⟨h, _⟩
              rcases h with h | h
              · exact absurd h.1 h2
              · cases h.1
    · rw [if_pos h1]
      constructor
      · intro h; exact absurd h h1
      · rintro ⟨_, h, _⟩; exact absurd (h m (by simp)) h1
theorem checkS_fit {s : St} : checkS s = 0 ↔ FitS s := by
  unfold checkS FitS RightS
  by_cases h1 : checkA s.1 = 0
  · rw [if_neg (by simpa using h1)]
    have hl : s.1.length ≤ 300 := (checkA_ok h1).1
    by_cases h2 : 600 < s.2.length
    · rw [if_pos h2]
      constructor
      · intro h; cases h
      · rintro ⟨_, _, h⟩; omega
    · rw [if_neg h2, checkGF_right]
      simp only
      constructor
      · rintro ⟨h, h3, h4⟩
        refine ⟨⟨right_of h1, ?_, h3, h4⟩, hl, by omega⟩
        rcases h with h | ⟨h, _⟩
        · exact h
        · rw [h]; trivial
      · rintro ⟨⟨_, h, h3, h4⟩, _⟩; exact ⟨.inl h, h3, h4⟩
  · rw [if_pos h1]
    constructor
    · intro h; exact absurd h h1
    · rintro ⟨⟨h, _⟩, h2, _⟩
      rw [right_to h, if_neg (by omega)] at h1
      exact absurd rfl h1
theorem checkDL_ok : ∀ {l : List De}, checkDL l = 0 ↔ ∀ d ∈ l, checkD d = 0
  | [] => by simp [checkDL]
  | d :: l => by
    unfold checkDL
    by_cases h : checkD d = 0
    · rw [if_neg (by simpa using h), checkDL_ok]; simp [h]
    · rw [if_pos h]; simp [h]
theorem hasM_putA (l : List At) (a : At) (m : Mk) : hasM (putA l a) m = true → hasM l m = true ∨ a.1 = m := by
  rw [hasM_iff]
  rintro ⟨x, hx, rfl⟩
  rcases (putA_mem hx).1 with h | ⟨y, hy, h⟩
  · exact .inr h.symm
  · exact .inl (hasM_iff.2 ⟨y, hy, h⟩)
theorem hasM_putNs {g : List Mk} {m : Mk} : ∀ (r l : List At), hasM (putNs g l r) m = true → hasM l m = true ∨ (∃ a ∈ r, a.1 = m ∧ hasG g m = false)
  | [], l, h => .inl h
  | a :: r, l, h => by
    have e : putNs g l (a :: r) = putNs g (putN g l a) r := rfl
    rw [e] at h
    rcases hasM_putNs r _ h with h | ⟨x, hx, h1, h2⟩
    · unfold putN at h
      cases hg : hasG g a.1 with
      | true => rw [hg, if_pos rfl] at h; exact .inl h
      | false =>
        rw [hg, if_neg (by simp)] at h
        rcases hasM_putA l a m h with h | rfl
        · exact .inl h
        · exact .inr ⟨a, by simp, rfl, hg⟩
    · exact .inr ⟨x, by simp [hx], h1, h2⟩
theorem hasM_takeA {l : List At} {ms : List Mk} {m : Mk} : hasM (takeA l ms) m = true ↔ hasM l m = true ∧ hasG ms m = false := by
  rw [hasM_iff, hasM_iff]
  unfold takeA
  constructor
  · rintro ⟨a, ha, rfl⟩
    obtain ⟨h1, h2⟩ := List.mem_filter.1 ha
    exact ⟨⟨a, h1, rfl⟩, by simpa using h2⟩
  · rintro ⟨⟨a, ha, rfl⟩, h⟩
    exact ⟨a, List.mem_filter.2 ⟨ha, by simpa using h⟩, rfl⟩
theorem putGs_has : ∀ (ms l : List Mk) (x : Mk), hasG (putGs l ms) x = (hasG l x || hasG ms x)
  | [], l, x => by simp [putGs, hasG]
  | m :: ms, l, x => by
    have e : putGs l (m :: ms) = putGs (putG l m) ms := rfl
    rw [e, putGs_has ms, putG_hasG, hasG_cons, Bool.or_assoc]
theorem putGs_mem {ms l : List Mk} {x : Mk} (h : x ∈ putGs l ms) : x ∈ l ∨ x ∈ ms := by
  have := putGs_has ms l x
  rw [hasG_iff.2 h] at this
  have h2 := this.symm
  rw [Bool.or_eq_true, hasG_iff, hasG_iff] at h2
  exact h2
theorem deed_take {d : De} (h : checkD d = 0) (h1 : ¬ d.kind = 1) : d.kind = 2 ∧ checkM d.mark = 0 ∧ (∃ n : Nat, d.many = (n : Int) ∧ 1 ≤ n ∧ n ≤ 60) ∧ noneM d.run.1 = true ∧ d.run.2 = [] ∧ (nextM d.mark (d.many - 1)).2 = 0 := by
  by_cases h2 : d.kind = 2
  · by_cases h3 : checkM d.mark = 0
    · by_cases h4 : noneM d.run.1 = false ∨ d.run.2 ≠ []
      · rw [checkD_take_form h1 h2 h3 h4] at h; cases h
      · have h4a : noneM d.run.1 = true := by cases h5 : noneM d.run.1 with
          | true => rfl
          | false => exact absurd (.inl h5) h4
        have h4b : d.run.2 = [] := by
          by_cases h5 : d.run.2 = []
          · exact h5
          · exact absurd (.inr h5) h4
        by_cases h5 : d.many < 1 ∨ 60 < d.many
        · rw [checkD_take_range h1 h2 h3 h4a h4b h5] at h; cases h
        · rw [checkD_take_next h1 h2 h3 h4a h4b h5] at h
          refine ⟨h2, h3, ⟨d.many.toNat, by omega, by omega, by omega⟩, h4a, h4b, h⟩
    · rw [checkD_take_bad h1 h2 h3] at h; exact absurd h h3
  · rw [checkD_kind h1 h2] at h; cases h
theorem deed_put {d : De} (h : checkD d = 0) (h1 : d.kind = 1) : checkR d.run = 0 ∧ noneM d.mark = true ∧ d.many = 0 := by
  by_cases h2 : checkR d.run = 0
  · by_cases h3 : noneM d.mark = false ∨ d.many ≠ 0
    · rw [checkD_put_form h1 h2 h3] at h; cases h
    · refine ⟨h2, ?_, ?_⟩
      · cases h5 : noneM d.mark with
        | true => rfl
        | false => exact absurd (.inl h5) h3
      · by_cases h5 : d.many = 0
        · exact h5
        · exact absurd (.inr h5) h3
  · rw [checkD_put_bad h1 h2] at h; exact absurd h h2
/-- the marks that a deed that is right names are right -/
theorem marksN_right {m : Mk} {n : Nat} (h : (nextM m ((n : Int) - 1)).2 = 0) : ∀ x ∈ marksN m n, checkM x = 0 := by
  obtain ⟨h1, h2, h3, h4⟩ := nextM_ok.1 h
  intro x hx
  unfold marksN at hx
  obtain ⟨i, hi, rfl⟩ := List.mem_map.1 hx
  have : i < n := by simpa using hi
  exact check_between h1 h4 (by omega) (by omega)
theorem atoms_marks (r : Rn) : (atomsR r).map (·.1) = marksN r.1 r.2.length := by simp [atomsR, marksN]
theorem marksD_right {d : De} (h : checkD d = 0) : ∀ x ∈ marksD d, checkM x = 0 := by
  unfold marksD
  by_cases h1 : d.kind = 1
  · rw [if_pos h1]
    exact marksN_right (checkR_parts (deed_put h h1).1).2.2.2.2
  · rw [if_neg h1]
    obtain ⟨_, _, ⟨n, hn, _, _⟩, _, _, h6⟩ := deed_take h h1
    rw [hn] at h6 ⊢
    exact marksN_right h6
theorem doDeed_right {s : St} {d : De} (hs : RightS s) (hd : checkD d = 0) : RightS (doDeed s d) := by
  obtain ⟨h1, h2, h3, h4⟩ := hs
  unfold doDeed
  by_cases hk : d.kind = 1
  · rw [if_pos hk]
    have hr := (checkA_ok (atoms_right (deed_put hd hk).1)).2.2
    refine ⟨putNs_right h1 hr, h2, h3, fun m hm => ?_⟩
    cases h : hasM (putNs s.2 s.1 (atomsR d.run)) m with
    | false => rfl
    | true =>
      rcases hasM_putNs _ _ h with h5 | ⟨a, _, _, h6⟩
      · rw [h4 m hm] at h5; cases h5
      · rw [hasG_iff.2 hm] at h6; cases h6
  · rw [if_neg hk]
    refine ⟨takeA_right h1, putGs_sorted h2, fun m hm => ?_, fun m hm => ?_⟩
    · rcases putGs_mem hm with h | h
      · exact h3 m h
      · exact marksD_right hd m h
    · cases h : hasM (takeA s.1 (marksD d)) m with
      | false => rfl
      | true =>
        obtain ⟨h5, h6⟩ := hasM_takeA.1 h
        rcases putGs_mem hm with h7 | h7
        · rw [h4 m h7] at h5; cases h5
        · rw [hasG_iff.2 h7] at h6; cases h6
theorem tooMuch_no {s : St} (h : tooMuch s = false) : s.1.length ≤ 300 ∧ s.2.length ≤ 600 := by
  unfold tooMuch at h
  simp at h
  omega
theorem doDs_fit : ∀ {l : List De} {s t : St}, FitS s → (∀ d ∈ l, checkD d = 0) → doDs s l = some t → FitS t
  | [], s, t, hs, _, h => by
    have : s = t := by simpa [doDs] using h
    exact this ▸ hs
  | d :: l, s, t, hs, hd, h => by
    unfold doDs at h
    cases hm : tooMuch (doDeed s d) with
    | true => rw [hm, if_pos rfl] at h; cases h
    | false =>
      rw [hm, if_neg (by simp)] at h
      exact doDs_fit ⟨doDeed_right hs.1 (hd d (by simp)), (tooMuch_no hm).1, (tooMuch_no hm).2⟩ (fun x hx => hd x (by simp [hx])) h
theorem doDs_app : ∀ (l m : List De) (s : St), doDs s (l ++ m) = (doDs s l).bind fun t => doDs t m
  | [], m, s => rfl
  | d :: l, m, s => by
    show (if tooMuch (doDeed s d) = true then none else doDs (doDeed s d) (l ++ m)) = (if tooMuch (doDeed s d) = true then none else doDs (doDeed s d) l).bind fun t => doDs t m
    by_cases h : tooMuch (doDeed s d) = true
    · rw [if_pos h, if_pos h]; rfl
    · rw [if_neg h, if_neg h]; exact doDs_app l m _
theorem doDs_one (s : St) (d : De) : doDs s [d] = if tooMuch (doDeed s d) = true then none else some (doDeed s d) := by unfold doDs; rfl
theorem doDs_take {s t : St} {l : List De} {k : Nat} {d : De} (h : l[k]? = some d) (ht : doDs s (l.take k) = some t) :
    (tooMuch (doDeed t d) = true → doDs s l = none) ∧ (tooMuch (doDeed t d) = false → doDs s (l.take (k + 1)) = some (doDeed t d)) := by
  obtain ⟨h1, h2⟩ := List.getElem?_eq_some_iff.1 h
  have e : doDs s (l.take (k + 1)) = if tooMuch (doDeed t d) = true then none else some (doDeed t d) := by
    rw [List.take_succ_eq_append_getElem h1, h2, doDs_app, ht]
    exact doDs_one t d
  refine ⟨fun hm => ?_, fun hm => ?_⟩
  · have e2 : l = l.take (k + 1) ++ l.drop (k + 1) := (List.take_append_drop _ _).symm
    rw [e2, doDs_app, e, if_pos hm]; rfl
  · rw [e, if_neg (by rw [hm]; simp)]
/-- what doing deeds answers -/
def allE (s : St) (l : List De) : Int := if checkS s ≠ 0 then checkS s else if checkDL l ≠ 0 then checkDL l else if doDs s l = none then 2 else 0
def allV (s : St) (l : List De) : St := if allE s l = 0 then (doDs s l).getD ([], []) else ([], [])
theorem allE_ok {s : St} {l : List De} : allE s l = 0 ↔ FitS s ∧ (∀ d ∈ l, checkD d = 0) ∧ doDs s l ≠ none := by
  unfold allE
  rw [← checkS_fit, ← checkDL_ok]
  by_cases h1 : checkS s = 0
  · by_cases h2 : checkDL l = 0
    · rw [if_neg (by simpa using h1), if_neg (by simpa using h2)]
      split
      · rename_i h; simp [h1, h2, h]
      · rename_i h; simp [h1, h2, h]
    · rw [if_neg (by simpa using h1), if_pos h2]; simp [h2]
  · rw [if_pos h1]; simp [h1]
end Go.Proofs.YtfgfdohppgoajaaGreat
/- Deeds, with errors: behind so many. -/
namespace Go.Proofs.YtfgfdohppgoajaaGreat
open Go Go.RowKit Cp

def errL (s : St) (l : List De) : Int := if checkS s ≠ 0 then checkS s else checkDL l
/-- behind k deeds -/
def AllAt (s : St) (l : List De) (k : Nat) (er : Int) : Prop := (er = 0 ∧ checkS s = 0 ∧ errL s l = checkDL (l.drop k)) ∨ (er ≠ 0 ∧ errL s l = er)
theorem allAt_start (s : St) (l : List De) : AllAt s l 0 (checkS s) := by
  by_cases h : checkS s = 0
  · exact .inl ⟨h, h, by unfold errL; rw [if_neg (by simpa using h), List.drop_zero]⟩
  · exact .inr ⟨h, by unfold errL; rw [if_pos h]⟩
theorem allAt_next {s : St} {l : List De} {k : Nat} {d : De} (h : AllAt s l k 0) (hd : l[k]? = some d) : AllAt s l (k + 1) (checkD d) := by
  rcases h with ⟨_, h1, h2⟩ | ⟨h, _⟩
  · by_cases h3 : checkD d = 0
    · exact .inl ⟨h3, h1, by rw [h2, checkDL_next hd h3]⟩
    · exact .inr ⟨h3, by rw [h2, checkDL_bad hd h3]⟩
  · exact absurd rfl h
theorem allAt_end {s : St} {l : List De} {k : Nat} {er : Int} (h : AllAt s l k er) (hk : l.length ≤ k ∨ er ≠ 0) : errL s l = er := by
  rcases h with ⟨h0, _, h2⟩ | ⟨_, h⟩
  · rcases hk with hk | hk
    · rw [h2, checkDL_end hk, h0]
    · exact absurd h0 hk
  · exact h
theorem allE_err {s : St} {l : List De} (h : errL s l ≠ 0) : allE s l = errL s l ∧ allV s l = ([], []) := by
  have e : allE s l = errL s l := by
    unfold errL at h ⊢; unfold allE
    by_cases h1 : checkS s = 0
    · simp only [h1, ne_eq, not_true_eq_false, if_false] at h ⊢
      rw [if_pos h]
    · rw [if_pos h1, if_pos h1]
  refine ⟨e, ?_⟩
  unfold allV
  rw [e, if_neg h]
theorem allE_run {s : St} {l : List De} (h : errL s l = 0) : FitS s ∧ (∀ d ∈ l, checkD d = 0) ∧ (doDs s l = none → allE s l = 2 ∧ allV s l = ([], [])) ∧ ∀ t, doDs s l = some t → allE s l = 0 ∧ allV s l = t := by
  have h1 : checkS s = 0 := by
    by_cases h1 : checkS s = 0
    · exact h1
    · unfold errL at h; rw [if_pos h1] at h; exact absurd h h1
  have h2 : checkDL l = 0 := by unfold errL at h; rwa [if_neg (by simpa using h1)] at h
  refine ⟨checkS_fit.1 h1, checkDL_ok.1 h2, fun h3 => ?_, fun t h3 => ?_⟩
  · have e : allE s l = 2 := by unfold allE; rw [if_neg (by simpa using h1), if_neg (by simpa using h2), if_pos h3]
    exact ⟨e, by unfold allV; rw [e]; rfl⟩
  · have e : allE s l = 0 := by unfold allE; rw [if_neg (by simpa using h1), if_neg (by simpa using h2), if_neg (by rw [h3]; simp)]
    exact ⟨e, by unfold allV; rw [e, h3]; rfl⟩
end Go.Proofs.YtfgfdohppgoajaaGreat
/- Plain laws of deeds: in whatever order they are done; what is gone stays gone. -/
namespace Go.Proofs.YtfgfdohppgoajaaGreat
open Go Go.RowKit Cp

def takesB (d : De) (x : Mk) : Bool := !decide (d.kind = 1) && hasG (marksD d) x
def putsO (d : De) (x : Mk) : Option UInt8 := if d.kind = 1 then look (atomsR d.run) x else none
theorem look_has : ∀ (l : List At) (x : Mk), look l x = none ↔ hasM l x = false
  | [], x => by simp [look, hasM]
  | a :: r, x => by
    rw [look_cons, hasM_cons, Bool.or_eq_false_iff, ← look_has r x]
    unfold one
    by_cases h : ordM a.1 x = 0
    · rw [if_pos h, decide_eq_true h]
      cases look r x <;> simp [comb]
    · rw [if_neg h, decide_eq_false h]
      cases look r x <;> simp [comb]
theorem look_filter (g : List Mk) : ∀ (m : List At) (x : Mk), look (m.filter fun a => !hasG g a.1) x = if hasG g x = true then none else look m x
  | [], x => by simp [look]
  | a :: r, x => by
    rw [List.filter_cons]
    by_cases h : ordM a.1 x = 0
    · have e : a.1 = x := ordM_zero.1 h
      cases hg : hasG g x with
      | true =>
        rw [e, hg, if_neg (by simp), look_filter g r x, hg, if_pos rfl, if_pos rfl]
      | false =>
        rw [e, hg, if_pos (by simp), if_neg (by simp), look_cons, look_cons, look_filter g r x, hg, if_neg (by simp)]
    · have e1 : one a x = none := by unfold one; rw [if_neg h]
      have e2 : comb none (look r x) = look r x := by rw [comb_comm, comb_none]
      split
      · rw [look_cons, look_cons, look_filter g r x, e1, e2]
        split
        · rfl
        · rw [comb_comm, comb_none]
      · rw [look_cons, look_filter g r x, e1, e2]
theorem gone_deed (s : St) (d : De) (x : Mk) : hasG (doDeed s d).2 x = (hasG s.2 x || takesB d x) := by
  unfold doDeed takesB
  by_cases h : d.kind = 1
  · rw [if_pos h, decide_eq_true h]; simp
  · rw [if_neg h, decide_eq_false h]
    simp only [Bool.not_false, Bool.true_and]
    exact putGs_has _ _ _
theorem gone_look {s : St} (hs : RightS s) {x : Mk} (h : hasG s.2 x = true) : look s.1 x = none := (look_has _ _).2 (hs.2.2.2 x (hasG_iff.1 h))
theorem look_deed {s : St} {d : De} (hs : RightS s) (x : Mk) : look (doDeed s d).1 x = if hasG (doDeed s d).2 x = true then none else comb (look s.1 x) (putsO d x) := by
  rw [gone_deed]
  unfold doDeed putsO takesB
  by_cases h : d.kind = 1
  · rw [if_pos h, if_pos h, decide_eq_true h]
    simp only [Bool.not_true, Bool.false_and, Bool.or_false]
    rw [putNs_merge, look_merge, look_filter]
    by_cases hg : hasG s.2 x = true
    · rw [if_pos hg, if_pos hg, gone_look hs hg]; rfl
    · rw [if_neg hg, if_neg hg]
  · rw [if_neg h, if_neg h, decide_eq_false h, comb_none]
    simp only [Bool.not_false, Bool.true_and]
    have e : look (takeA s.1 (marksD d)) x = if hasG (marksD d) x = true then none else look s.1 x := look_filter _ _ _
    rw [e]
    by_cases hg : hasG s.2 x = true
    · rw [hg, Bool.true_or, if_pos rfl, gone_look hs hg]; split <;> rfl
    · have hg' : hasG s.2 x = false := by simpa using hg
      rw [hg', Bool.false_or]
def putsL (l : List De) (x : Mk) (o : Option UInt8) : Option UInt8 := l.foldl (fun o d => comb o (putsO d x)) o
theorem doDs_char : ∀ {l : List De} {s t : St}, RightS s → (∀ d ∈ l, checkD d = 0) → doDs s l = some t → ∀ x, hasG t.2 x = (hasG s.2 x || l.any fun d => takesB d x) ∧ look t.1 x = if hasG t.2 x = true then none else putsL l x (look s.1 x)
  | [], s, t, hs, _, h, x => by
    have e : s = t := by simpa [doDs] using h
    subst e
    refine ⟨by simp, ?_⟩
    by_cases hg : hasG s.2 x = true
    · rw [if_pos hg, gone_look hs hg]
    · rw [if_neg hg]; rfl
  | d :: l, s, t, hs, hd, h, x => by
    unfold doDs at h
    cases hm : tooMuch (doDeed s d) with
    | true => rw [hm, if_pos rfl] at h; cases h
    | false =>
      rw [hm, if_neg (by simp)] at h
      obtain ⟨i1, i2⟩ := doDs_char (doDeed_right hs (hd d (by simp))) (fun y hy => hd y (by simp [hy])) h x
      refine ⟨by rw [i1, gone_deed, List.any_cons, Bool.or_assoc], ?_⟩
      rw [i2]
      by_cases hg : hasG t.2 x = true
      · rw [if_pos hg, if_pos hg]
      · rw [if_neg hg, if_neg hg, look_deed hs]
        have hg2 : hasG (doDeed s d).2 x = false := by
          have : hasG t.2 x = false := by simpa using hg
          rw [i1, Bool.or_eq_false_iff] at this
          exact this.1
        rw [hg2, if_neg (by simp)]; rfl
def key : Option UInt8 → Nat
  | none => 256
  | some u => u.toNat
theorem key_inj {a b : Option UInt8} (h : key a = key b) : a = b := by
  cases a with
  | none =>
    cases b with
    | none => rfl
    | some v => simp only [key] at h; have := v.toNat_lt; omega
  | some u =>
    cases b with
    | none => simp only [key] at h; have := u.toNat_lt; omega
    | some v => simp only [key] at h; rw [UInt8.toNat_inj.1 h]
theorem key_comb (a b : Option UInt8) : key (comb a b) = min (key a) (key b) := by
  cases a with
  | none => cases b with
    | none => rfl
    | some v => simp only [comb, key]; have := v.toNat_lt; omega
  | some u => cases b with
    | none => simp only [comb, key]; have := u.toNat_lt; omega
    | some v => simp only [comb, key, mnS_toNat]
theorem le_puts (n : Nat) (x : Mk) : ∀ (l : List De) (o : Option UInt8), n ≤ key (putsL l x o) ↔ n ≤ key o ∧ ∀ d ∈ l, n ≤ key (putsO d x)
  | [], o => by simp [putsL]
  | d :: l, o => by
    have e : putsL (d :: l) x o = putsL l x (comb o (putsO d x)) := rfl
    rw [e, le_puts n x l, key_comb, Nat.le_min]
    simp only [List.mem_cons, forall_eq_or_imp, and_assoc]
theorem puts_sub {l m : List De} (hs : ∀ d ∈ m, d ∈ l) (x : Mk) (o : Option UInt8) : putsL (m ++ l) x o = putsL l x o := by
  refine key_inj (Nat.le_antisymm ?_ ?_)
  · refine (le_puts _ x l o).2 ?_
    have h := (le_puts (key (putsL (m ++ l) x o)) x (m ++ l) o).1 (Nat.le_refl _)
    exact ⟨h.1, fun d hd => h.2 d (by simp [hd])⟩
  · refine (le_puts _ x (m ++ l) o).2 ?_
    have h := (le_puts (key (putsL l x o)) x l o).1 (Nat.le_refl _)
    refine ⟨h.1, fun d hd => ?_⟩
    rcases List.mem_append.1 hd with hd | hd
    · exact h.2 d (hs d hd)
    · exact h.2 d hd
theorem goneG_eq : ∀ {l m : List Mk}, SortedG l → SortedG m → (∀ x, hasG l x = hasG m x) → l = m
  | [], [], _, _, _ => rfl
  | [], b :: m, _, _, h => by
    have h1 := h b
    rw [hasG_iff.2 (List.mem_cons_self ..)] at h1
    simp [hasG] at h1
  | a :: l, [], _, _, h => by
    have h1 := h a
    rw [hasG_iff.2 (List.mem_cons_self ..)] at h1
    simp [hasG] at h1
  | a :: l, b :: m, hl, hm, h => by
    have ha := sortedG_head hl
    have hb := sortedG_head hm
    have e : a = b := by
      have h1 := h a
      rw [hasG_iff.2 (List.mem_cons_self ..)] at h1
      have h2 := hasG_iff.1 h1.symm
      rcases List.mem_cons.1 h2 with rfl | h2
      · rfl
      · have h3 := h b
        rw [hasG_iff.2 (List.mem_cons_self ..)] at h3
        rcases List.mem_cons.1 (hasG_iff.1 h3) with rfl | h4
        · rfl
        · have h5 := hb a h2
          have h6 := ha b h4
          have h7 := ordM_anti a b
          omega
    subst e
    refine congrArg (a :: ·) (goneG_eq (sortedG_tail hl) (sortedG_tail hm) (fun x => ?_))
    have hx := h x
    rw [hasG_cons, hasG_cons] at hx
    by_cases hax : ordM a x = 0
    · have e : a = x := ordM_zero.1 hax
      subst e
      have h1 : hasG l a = false := by
        cases h9 : hasG l a with
        | false => rfl
        | true => have h8 := ha a (hasG_iff.1 h9); rw [hax] at h8; omega
      have h2 : hasG m a = false := by
        cases h9 : hasG m a with
        | false => rfl
        | true => have h8 := hb a (hasG_iff.1 h9); rw [hax] at h8; omega
      rw [h1, h2]
    · rw [decide_eq_false hax, Bool.false_or, Bool.false_or] at hx
      exact hx
/-- in whatever order, and again -/
theorem doDs_any {s a b : St} {l m : List De} (hs : FitS s) (hd : ∀ d ∈ l, checkD d = 0) (hm : ∀ d ∈ m, d ∈ l) (ha : doDs s l = some a) (hb : doDs s (m ++ l) = some b) : a = b := by
  have hd2 : ∀ d ∈ m ++ l, checkD d = 0 := fun d h => by
    rcases List.mem_append.1 h with h | h
    · exact hd d (hm d h)
    · exact hd d h
  have fa := doDs_fit hs hd ha
  have fb := doDs_fit hs hd2 hb
  have ca := doDs_char hs.1 hd ha
  have cb := doDs_char hs.1 hd2 hb
  have hany : ∀ x, ((m ++ l).any fun d => takesB d x) = l.any fun d => takesB d x := fun x => by
    rw [List.any_append]
    cases h1 : m.any fun d => takesB d x with
    | false => simp
    | true =>
      obtain ⟨d, hd3, h2⟩ := List.any_eq_true.1 h1
      rw [Bool.true_or]
      exact (List.any_eq_true.2 ⟨d, hm d hd3, h2⟩).symm
  have hg : ∀ x, hasG a.2 x = hasG b.2 x := fun x => by rw [(ca x).1, (cb x).1, hany]
  have h2 : a.2 = b.2 := goneG_eq fa.1.2.1 fb.1.2.1 hg
  have h1 : a.1 = b.1 := look_eq fa.1.1.1 fb.1.1.1 (fun x => by rw [(ca x).2, (cb x).2, hg x, puts_sub hm])
  exact Prod.ext h1 h2
theorem allE_any {s : St} {l m : List De} (h : allE s l = 0) (hm : ∀ d ∈ m, d ∈ l) : allE s (m ++ l) = 2 ∨ (allE s (m ++ l) = 0 ∧ allV s (m ++ l) = allV s l) := by
  obtain ⟨h1, h2, h3⟩ := allE_ok.1 h
  have hd2 : ∀ d ∈ m ++ l, checkD d = 0 := fun d h => by
    rcases List.mem_append.1 h with h | h
    · exact h2 d (hm d h)
    · exact h2 d h
  cases hb : doDs s (m ++ l) with
  | none =>
    left
    unfold allE
    rw [if_neg (by simpa using checkS_fit.2 h1), if_neg (by simpa using checkDL_ok.2 hd2), if_pos hb]
  | some b =>
    right
    have e0 : allE s (m ++ l) = 0 := allE_ok.2 ⟨h1, hd2, by rw [hb]; simp⟩
    refine ⟨e0, ?_⟩
    cases ha : doDs s l with
    | none => exact absurd ha h3
    | some a =>
      unfold allV
      rw [if_pos e0, if_pos h, ha, hb]
      exact (doDs_any h1 h2 hm ha hb).symm
theorem allV_fit {s : St} {l : List De} (h : allE s l = 0) : FitS (allV s l) := by
  obtain ⟨h1, h2, h3⟩ := allE_ok.1 h
  cases ha : doDs s l with
  | none => exact absurd ha h3
  | some a => unfold allV; rw [if_pos h, ha]; exact doDs_fit h1 h2 ha
/-- what is gone stays so; what is there was there, or was put -/
theorem allV_gone {s : St} {l : List De} (h : allE s l = 0) {m : Mk} (hm : m ∈ s.2) : hasG (allV s l).2 m = true ∧ hasM (allV s l).1 m = false := by
  obtain ⟨h1, h2, h3⟩ := allE_ok.1 h
  cases ha : doDs s l with
  | none => exact absurd ha h3
  | some a =>
    have e : allV s l = a := by unfold allV; rw [if_pos h, ha]; rfl
    have hg : hasG a.2 m = true := by rw [(doDs_char h1.1 h2 ha m).1, hasG_iff.2 hm, Bool.true_or]
    rw [e]
    exact ⟨hg, (doDs_fit h1 h2 ha).1.2.2.2 m (hasG_iff.1 hg)⟩
theorem allV_was {s : St} {l : List De} (h : allE s l = 0) {m : Mk} (hm : hasM (allV s l).1 m = true) : hasM s.1 m = true ∨ ∃ d ∈ l, d.kind = 1 ∧ m ∈ marksD d := by
  obtain ⟨h1, h2, h3⟩ := allE_ok.1 h
  cases ha : doDs s l with
  | none => exact absurd ha h3
  | some a =>
    have e : allV s l = a := by unfold allV; rw [if_pos h, ha]; rfl
    rw [e] at hm
    have hl : look a.1 m ≠ none := fun h9 => by rw [(look_has _ _).1 h9] at hm; cases hm
    rw [(doDs_char h1.1 h2 ha m).2] at hl
    by_cases hs : hasM s.1 m = true
    · exact .inl hs
    · right
      have hs' : look s.1 m = none := (look_has _ _).2 (by simpa using hs)
      by_cases hg : hasG a.2 m = true
      · rw [if_pos hg] at hl; exact absurd rfl hl
      · rw [if_neg hg, hs'] at hl
        refine Classical.byContradiction fun hno => hl (key_inj (Nat.le_antisymm (by
          generalize putsL l m none = o
          cases o with
          | none => exact Nat.le_refl _
          | some u => have := u.toNat_lt; simp only [key]; omega) ((le_puts _ m l none).2 ⟨Nat.le_refl _, fun d hd => ?_⟩)))
        have : putsO d m = none := by
          unfold putsO
          by_cases hk : d.kind = 1
          · rw [if_pos hk]
            refine (look_has _ _).2 ?_
            cases h9 : hasM (atomsR d.run) m with
            | false => rfl
            | true =>
              obtain ⟨x, hx, rfl⟩ := hasM_iff.1 h9
              exact absurd ⟨d, hd, hk, by unfold marksD; rw [if_pos hk, ← atoms_marks]; exact List.mem_map.2 ⟨x, hx, rfl⟩⟩ hno
          · rw [if_neg hk]
        rw [this]; exact Nat.le_refl _
end Go.Proofs.YtfgfdohppgoajaaGreat
/- One mark more, by the document. -/
namespace Go.Proofs.YtfgfdohppgoajaaGreat
open Go Go.RowKit Go.BigFrame Cp

def IsMksX (q : List Mk) (w : World) (e : Ending) (w' : World) : Prop := ∃ v, e = .returned v ∧ RSl RMk 2 (fun _ => True) w' v q ∧ Ext w w'
set_option maxRecDepth 100000 in
set_option maxHeartbeats 4000000 in
theorem putGone_any {F G : Nat → Prop} {w : World} {v : Value} {ds : List Value} {l : List Mk} {m : Mk} (h : RSl RMk 2 F w v l) (km : RMk G w ds m) (hs : SortedG l) (hl : l.length ≤ 900) :
    Calls Tryz.prog 115 #[v, .agg ds.toArray] w (IsMksX (putG l m) w) := by
  have h0 : RSl RMk 2 (fun j => j < w.heap.size) w v l := RSl.more gMk (fun _ _ hk => hk) h
  have HAS := Lib.hid (fun (W : World) (hx : Ext w W) => hasGone_any (h.ext gMk hx) (gMk.ext km hx))
  have HL := Lib.hid (fun (W : World) (hx : Ext w W) => h0.ext gMk hx)
  obtain ⟨a0, n0, c0, rfl⟩ := h0.slice
  obtain rfl : n0 = l.length := h0.len.1
  obtain ⟨u, rfl, hu, hui⟩ := km
  obtain ⟨pa, da⟩ := m
  simp only at hu hui HAS ⊢
  have hu' : RSl RStp 2 (fun j => j < w.heap.size) w u pa := RSl.more gStp (fun _ _ hk => hk) hu
  have HPA := Lib.hid (fun (W : World) (hx : Ext w W) => hu'.ext gStp hx)
  have HIA := Lib.hid hui
  obtain ⟨aa, na, ca, rfl⟩ := hu'.slice
  obtain rfl : na = pa.length := hu'.len.1
  obtain ⟨i0, hi0, hz0, hz1', hz2⟩ := info_parts cm_info
  have HJ := Lib.hid hi0
  have HZ0 := Lib.hid hz0
  have HZ1 := Lib.hid hz1'
  have HZ2 := Lib.hid hz2
  clear h0 h hu hu' hui hi0 hz0 hz1' hz2
  cases hg : hasG l (pa, da) with
  | true =>
    have e := putG_has hs hg
    rw [hg] at HAS
    rw [e]
    clear e hg hs
    go_enter Tryz.func115, Tryz.ntmps115
    go_wp2_with (first | (go_at_call 83; go_must ((with_reducible refine (HAS.out _ extA).mono ?_); rintro e w1 ⟨rfl, hx1⟩; have hs1 := hx1.size; (try simp at hs1); have hlw1 : w.heap.size < w1.heap.size := (by omega); have q0 := (hx1.cells (w.heap.size) 0 (by first | omega | (simp <;> omega))).trans (show _ = some (.slice aa pa.length ca) by first | assumption | go_simp); have q1 := (hx1.cells (w.heap.size) 1 (by first | omega | (simp <;> omega))).trans (show _ = some (.int .i64 da) by first | assumption | go_simp); have HXG := Lib.hid hx1; clear hx1)))
    go_ret
    exact ⟨_, rfl, RSl.more gMk (fun _ _ _ => trivial) (HL.out _ (ext_trans extA HXG.out)), ext_trans extA HXG.out⟩
  | false =>
    have HNO := Lib.hid (fun (k : Nat) (x : Mk) (hx : l[k]? = some x) => hasG_no hg hx)
    rw [hg] at HAS
    clear hg hs
    go_enter Tryz.func115, Tryz.ntmps115
    go_wp2_with (first | (go_at_call 83; go_must ((with_reducible refine (HAS.out _ extA).mono ?_); rintro e w1 ⟨rfl, hx1⟩; have hs1 := hx1.size; (try simp at hs1); have hlw1 : w.heap.size < w1.heap.size := (by omega); have q0 := (hx1.cells (w.heap.size) 0 (by first | omega | (simp <;> omega))).trans (show _ = some (.slice aa pa.length ca) by first | assumption | go_simp); have q1 := (hx1.cells (w.heap.size) 1 (by first | omega | (simp <;> omega))).trans (show _ = some (.int .i64 da) by first | assumption | go_simp); have HXG := Lib.hid hx1; clear hx1)))
    refine wp_name (fun wb ewb => ?_)
    have b0 : wb.cell? ⟨w.heap.size, 0, none⟩ = some (.slice aa pa.length ca) := by rw [ewb]; go_simp
    have b1 : wb.cell? ⟨w.heap.size, 1, none⟩ = some (.int .i64 da) := by rw [ewb]; go_simp
    have hbb : w.heap.size < wb.heap.size := by rw [ewb]; first | omega | (simp; omega)
    have HWB := Lib.hid (show Ext w wb by rw [ewb]; exact ext_trans extA HXG.out)
    clear ewb HAS HXG q0 q1
    go_loopw [5, 6, 7] (fun ov pv iv wr => ∃ (k : Nat) (out : List Mk) (put : Bool), k ≤ l.length ∧ iv = .int .i64 k ∧ pv = .bool put ∧ Hid (OSl RMk 2 47 wb.heap.size (fun _ => True) wr ov out) ∧ Hid (DocG l (pa, da) k out put) ∧ Ext wb wr) (fun _ _ iv _ => l.length - (intOf iv).toNat)
    case atStart => exact ⟨0, [], false, Nat.zero_le _, rfl, rfl, Lib.hid osl_nil, Lib.hid (docG_start _ _), ext_refl _⟩
    case round =>
      obtain ⟨k, out, put, hk, rfl, rfl, HO, HD, hx⟩ := hrel
      have x0 := (hx.cells w.heap.size 0 hbb).trans b0
      have x1 := (hx.cells w.heap.size 1 hbb).trans b1
      have hzr := hx.size
      have HXB := Lib.hid hx
      have HX := Lib.hid (ext_trans HWB.out hx)
      have hbr : w.heap.size < wr.heap.size := by omega
      clear hx b0 b1
      obtain ⟨a5, n5, c5, rfl⟩ := osl_slice HO.out
      obtain rfl : n5 = out.length := (osl_len HO.out).1
      have hol : out.length ≤ 1000 := by have := HD.out.2.1; omega
      have hol2 : (out ++ [(pa, da)]).length ≤ 1000 := by rw [List.length_append, List.length_singleton]; have := HD.out.2.1; omega
      have HOL := Lib.hid (osl_lt HO.out)
      by_cases hlt : k < l.length
      · have hbw : ∀ b o, a0 = some ⟨b, o, none⟩ → b < w.heap.size := fun b o e => by
          obtain ⟨b', o', _, _, _, _, e', hb', _⟩ := mark_at (HL.out w (ext_refl w)) hlt
          rw [e'] at e; injection e with e; injection e with e1; omega
        obtain ⟨b, o, p, d, ap, cp, rfl, hb, ek, ick, hpp, y0, y1⟩ := mark_at (HL.out wr HX.out) hlt
        have hbw0 := hbw b o rfl
        clear hbw
        have HPP := Lib.hid (fun (W : World) (hx : Ext wr W) => hpp.ext gStp hx)
        have HIC := Lib.hid ick
        have HOR := Lib.hid (fun (W : World) (hx : Ext wr W) => orderOf_any (rmk_of' (hpp.ext gStp hx) ick) (rmk_of' (HPA.out _ (ext_trans HX.out hx)) HIA.out))
        have hnb : ¬ b = wr.heap.size := by omega
        have hnw : ¬ w.heap.size = wr.heap.size := by omega
        have hbwr : b < wr.heap.size := hb
        have hne := HNO.out k _ ek
        clear ick hpp hb
        cases put with
        | true =>
          have HE := Lib.hid (docG_put HD.out ek)
          clear ek HD hne HOR
          go_wp2_with fail
          refine wp_name (fun W2 eW2 => ?_)
          have e0 : W2.cell? ⟨w.heap.size, 0, none⟩ = some (.slice aa pa.length ca) := by rw [eW2]; go_simp
          have e1 : W2.cell? ⟨w.heap.size, 1, none⟩ = some (.int .i64 da) := by rw [eW2]; go_simp
          have e2 : W2.cell? ⟨b, o + k * 2, none⟩ = some (.slice ap p.length cp) := by rw [eW2]; go_simp
          have e3 : W2.cell? ⟨b, o + k * 2 + 1, none⟩ = some (.int .i64 d) := by rw [eW2]; go_simp
          have zW2_0 : b < W2.heap.size := by rw [eW2]; first | assumption | omega | (simp <;> omega)
          have zW2_1 : w.heap.size < W2.heap.size := by rw [eW2]; first | assumption | omega | (simp <;> omega)
          have hw2 : Ext wr W2 := by rw [eW2]; exact extA
          clear eW2
          refine wp_region_later fol (by kernel_rfl) (fun hlater => ?_)
          repeat (go_big_quiet_step ((first
              | fail)))
          refine wpQuiet_nil ?_
          rintro W3 ⟨⟨w3x, hx3⟩, rfl⟩
          clear hlater
          have f0 := (hx3.cells _ _ zW2_1).trans e0
          have f1 := (hx3.cells _ _ zW2_1).trans e1
          have f2 := (hx3.cells _ _ zW2_0).trans e2
          have f3 := (hx3.cells _ _ zW2_0).trans e3
          have hR3 : Ext wr W3 := ext_trans hw2 hx3
          have hs3 := hR3.size
          have hb3 : b < W3.heap.size := by omega
          have hw3 : w.heap.size < W3.heap.size := by omega
          have hnb3 : ¬ b = W3.heap.size := by omega
          have hnw3 : ¬ w.heap.size = W3.heap.size := by omega
          clear e0 e1 e2 e3 hx3 hw2 x0 x1 y0 y1
          go_wp2_with (first | (at_builtin; go_must (refine wpList_appAll gMk rfl (.tmp 33) (.tmp 38) 23 rfl wb.heap.size 47 i0 _ 2 32 Tryz.underlying23 HJ.out HZ0.out HZ1.out HZ2.out rfl (by omega) (F := fun _ => True) (G := fun j => j < w.heap.size ∨ wr.heap.size ≤ j) (.slice a5 out.length c5) out rfl (osl_ext gMk HO.out extA) _ [(p, d)] rfl (cm_one (RSl.more gStp (fun j hj _ => Or.inl hj) (HPP.out _ extA)) HIC.out (by first | assumption | go_simp) (by first | assumption | go_simp) (Or.inr (by first | omega | (simp <;> omega))) (by first | omega | (simp <;> omega))) one_mk (fun j hj _ => ⟨trivial, fun e => by have := HOL.out j e.symm; rcases hj with h | h <;> omega⟩) (c_len hol) (cm_byt hol) (by first | omega | (simp <;> omega)) ?_; intro v9 w9 hown9 hg9 hat9; obtain ⟨a9, n9, c9, rfl⟩ := osl_slice hown9; have hx9 : Ext wb w9 := ext_grow (ext_trans HXB.out extA) hg9 (fun j hj => (HOL.out j hj).1); have HV9 := Lib.hid hown9)))
          go_roundw
          case rel => exact ⟨k + 1, _, true, by omega, by go_num, rfl, HV9, HE, hx9⟩
          case measure => simp [intOf]; omega
        | false =>
          by_cases h1 : ordM (p, d) (pa, da) = 1
          · have HE := Lib.hid (docG_new HD.out ek h1)
            rw [h1] at HOR
            clear ek h1 HD hne
            go_wp2_with fail
            refine wp_name (fun W2 eW2 => ?_)
            have e0 : W2.cell? ⟨w.heap.size, 0, none⟩ = some (.slice aa pa.length ca) := by rw [eW2]; go_simp
            have e1 : W2.cell? ⟨w.heap.size, 1, none⟩ = some (.int .i64 da) := by rw [eW2]; go_simp
            have e2 : W2.cell? ⟨b, o + k * 2, none⟩ = some (.slice ap p.length cp) := by rw [eW2]; go_simp
            have e3 : W2.cell? ⟨b, o + k * 2 + 1, none⟩ = some (.int .i64 d) := by rw [eW2]; go_simp
            have zW2_0 : b < W2.heap.size := by rw [eW2]; first | assumption | omega | (simp <;> omega)
            have zW2_1 : w.heap.size < W2.heap.size := by rw [eW2]; first | assumption | omega | (simp <;> omega)
            have hw2 : Ext wr W2 := by rw [eW2]; exact extA
            clear eW2
            refine wp_region_later fol (by kernel_rfl) (fun hlater => ?_)
            repeat (go_big_quiet_step ((first
                | (go_at_call 96; (with_reducible exact later_of (HOR.out _ (ext_trans hw2 (Later.ext _))))))))
            refine wpQuiet_nil ?_
            rintro W3 ⟨⟨w3x, hx3⟩, rfl⟩
            clear hlater
            have f0 := (hx3.cells _ _ zW2_1).trans e0
            have f1 := (hx3.cells _ _ zW2_1).trans e1
            have f2 := (hx3.cells _ _ zW2_0).trans e2
            have f3 := (hx3.cells _ _ zW2_0).trans e3
            have hR3 : Ext wr W3 := ext_trans hw2 hx3
            have hs3 := hR3.size
            have hb3 : b < W3.heap.size := by omega
            have hw3 : w.heap.size < W3.heap.size := by omega
            have hnb3 : ¬ b = W3.heap.size := by omega
            have hnw3 : ¬ w.heap.size = W3.heap.size := by omega
            clear e0 e1 e2 e3 hx3 hw2 x0 x1 y0 y1
            have HMK1 : True := trivial
            go_wp2_with (first | (at_builtin; (clear HMK1); go_must (refine wpList_appAll gMk rfl (.tmp 29) (.tmp 31) 23 rfl wb.heap.size 47 i0 _ 2 32 Tryz.underlying23 HJ.out HZ0.out HZ1.out HZ2.out rfl (by omega) (F := fun _ => True) (G := fun j => j < w.heap.size ∨ wr.heap.size ≤ j) (.slice a5 out.length c5) out rfl (osl_ext gMk HO.out extA) _ [(pa, da)] rfl (cm_one (RSl.more gStp (fun j hj _ => Or.inl hj) (HPA.out _ (ext_trans HX.out extA))) HIA.out (by first | assumption | go_simp) (by first | assumption | go_simp) (Or.inr (by first | omega | (simp <;> omega))) (by first | omega | (simp <;> omega))) one_mk (fun j hj _ => ⟨trivial, fun e => by have := HOL.out j e.symm; rcases hj with h | h <;> omega⟩) (c_len hol) (cm_byt hol) (by first | omega | (simp <;> omega)) ?_; intro v8 w8 hown8 hg8 hat8; obtain ⟨a8, n8, c8, rfl⟩ := osl_slice hown8; have HOL8 := Lib.hid (osl_lt hown8); have hx8 : Ext wb w8 := ext_grow (ext_trans HXB.out extA) hg8 (fun j hj => (HOL.out j hj).1); have hz8 := hg8.size; (try simp at hz8); have hx8w : Ext w w8 := ext_trans HWB.out hx8; have hb8 : wr.heap.size < w8.heap.size := (by omega); have hbw8 : b < w8.heap.size := (by omega); have r0 := hg8.cell (a := ⟨b, o + k * 2, none⟩) (v := .slice ap p.length cp) (by first | assumption | go_simp) (fun e => by have h9 := HOL.out b e.symm; omega); have r1 := hg8.cell (a := ⟨b, o + k * 2 + 1, none⟩) (v := .int .i64 d) (by first | assumption | go_simp) (fun e => by have h9 := HOL.out b e.symm; omega); have HPX := Lib.hid (RSl.keep gStp ⟨hg8.size, fun j hj hlt => hg8.block j hlt (fun e => by have := HOL.out j e.symm; omega)⟩ (HPP.out _ extA)); have HV8 := Lib.hid hown8; clear hown8 hg8 hat8)) | (at_builtin; go_must (refine wpList_appAll gMk rfl (.tmp 33) (.tmp 38) 23 rfl wb.heap.size 47 i0 _ 2 32 Tryz.underlying23 HJ.out HZ0.out HZ1.out HZ2.out rfl (by omega) (F := fun _ => True) (G := fun j => j < w.heap.size ∨ w8.heap.size ≤ j) (.slice a8 n8 c8) (out ++ [(pa, da)]) rfl (osl_ext gMk HV8.out extA) _ [(p, d)] rfl (cm_one (RSl.more gStp (fun j hj _ => Or.inl hj) ((HPX.out.ext gStp extA))) HIC.out (by first | assumption | go_simp) (by first | assumption | go_simp) (Or.inr (by first | omega | (simp <;> omega))) (by first | omega | (simp <;> omega))) one_mk (fun j hj _ => ⟨trivial, fun e => by have := HOL8.out j e.symm; rcases hj with h | h <;> omega⟩) (c_len hol2) (cm_byt hol2) (by first | omega | (simp <;> omega)) ?_; intro v9 w9 hown9 hg9 hat9; obtain ⟨a9, n9, c9, rfl⟩ := osl_slice hown9; have hx9 : Ext wb w9 := ext_grow (ext_trans hx8 extA) hg9 (fun j hj => (HOL8.out j hj).1); have HV9 := Lib.hid hown9)))
            go_roundw
            case rel => exact ⟨k + 1, _, true, by omega, by go_num, rfl, HV9, HE, hx9⟩
            case measure => simp [intOf]; omega
          · have HE := Lib.hid (docG_less HD.out ek hne h1)
            have g1 : decide (0 < ordM (p, d) (pa, da)) = false := decide_eq_false (by rcases ordM_range (p, d) (pa, da) with h | h | h <;> omega)
            generalize ordM (p, d) (pa, da) = od at *
            clear ek h1 HD hne
            go_wp2_with fail
            refine wp_name (fun W2 eW2 => ?_)
            have e0 : W2.cell? ⟨w.heap.size, 0, none⟩ = some (.slice aa pa.length ca) := by rw [eW2]; go_simp
            have e1 : W2.cell? ⟨w.heap.size, 1, none⟩ = some (.int .i64 da) := by rw [eW2]; go_simp
            have e2 : W2.cell? ⟨b, o + k * 2, none⟩ = some (.slice ap p.length cp) := by rw [eW2]; go_simp
            have e3 : W2.cell? ⟨b, o + k * 2 + 1, none⟩ = some (.int .i64 d) := by rw [eW2]; go_simp
            have zW2_0 : b < W2.heap.size := by rw [eW2]; first | assumption | omega | (simp <;> omega)
            have zW2_1 : w.heap.size < W2.heap.size := by rw [eW2]; first | assumption | omega | (simp <;> omega)
            have hw2 : Ext wr W2 := by rw [eW2]; exact extA
            clear eW2
            refine wp_region_later fol (by kernel_rfl) (fun hlater => ?_)
            repeat (go_big_quiet_step ((first
                | (go_at_call 96; (with_reducible exact later_of (HOR.out _ (ext_trans hw2 (Later.ext _))))))))
            refine wpQuiet_nil ?_
            rintro W3 ⟨⟨w3x, hx3⟩, rfl⟩
            clear hlater
            have f0 := (hx3.cells _ _ zW2_1).trans e0
            have f1 := (hx3.cells _ _ zW2_1).trans e1
            have f2 := (hx3.cells _ _ zW2_0).trans e2
            have f3 := (hx3.cells _ _ zW2_0).trans e3
            have hR3 : Ext wr W3 := ext_trans hw2 hx3
            have hs3 := hR3.size
            have hb3 : b < W3.heap.size := by omega
            have hw3 : w.heap.size < W3.heap.size := by omega
            have hnb3 : ¬ b = W3.heap.size := by omega
            have hnw3 : ¬ w.heap.size = W3.heap.size := by omega
            clear e0 e1 e2 e3 hx3 hw2 x0 x1 y0 y1
            go_wp2_with (first | (at_builtin; go_must (refine wpList_appAll gMk rfl (.tmp 33) (.tmp 38) 23 rfl wb.heap.size 47 i0 _ 2 32 Tryz.underlying23 HJ.out HZ0.out HZ1.out HZ2.out rfl (by omega) (F := fun _ => True) (G := fun j => j < w.heap.size ∨ wr.heap.size ≤ j) (.slice a5 out.length c5) out rfl (osl_ext gMk HO.out extA) _ [(p, d)] rfl (cm_one (RSl.more gStp (fun j hj _ => Or.inl hj) (HPP.out _ extA)) HIC.out (by first | assumption | go_simp) (by first | assumption | go_simp) (Or.inr (by first | omega | (simp <;> omega))) (by first | omega | (simp <;> omega))) one_mk (fun j hj _ => ⟨trivial, fun e => by have := HOL.out j e.symm; rcases hj with h | h <;> omega⟩) (c_len hol) (cm_byt hol) (by first | omega | (simp <;> omega)) ?_; intro v9 w9 hown9 hg9 hat9; obtain ⟨a9, n9, c9, rfl⟩ := osl_slice hown9; have hx9 : Ext wb w9 := ext_grow (ext_trans HXB.out extA) hg9 (fun j hj => (HOL.out j hj).1); have HV9 := Lib.hid hown9)))
            go_roundw
            case rel => exact ⟨k + 1, _, false, by omega, by go_num, rfl, HV9, HE, hx9⟩
            case measure => simp [intOf]; omega
      · have hkl : k = l.length := by omega
        subst hkl
        have e9 := docG_end HD.out
        cases put with
        | true =>
          have HF := Lib.hid (show RSl RMk 2 (fun _ => True) wr (.slice a5 out.length c5) (putG l (pa, da)) by
            have h9 := osl_rsl gMk HO.out (G := fun _ => True) (fun _ _ _ => trivial) (fun _ _ => trivial)
            rw [if_pos rfl] at e9
            rw [← e9]; exact h9)
          clear e9
          go_wp2
          go_ret
          exact ⟨_, rfl, HF.out, HX.out⟩
        | false =>
          rw [if_neg (by simp)] at e9
          have HE9 := Lib.hid e9
          clear e9 HD
          go_wp2_with (first | (at_builtin; go_must (refine wpList_appAll gMk rfl (.tmp 42) (.tmp 44) 23 rfl wb.heap.size 47 i0 _ 2 32 Tryz.underlying23 HJ.out HZ0.out HZ1.out HZ2.out rfl (by omega) (F := fun _ => True) (G := fun j => j < w.heap.size ∨ wr.heap.size ≤ j) (.slice a5 out.length c5) out rfl (osl_ext gMk HO.out extA) _ [(pa, da)] rfl (cm_one (RSl.more gStp (fun j hj _ => Or.inl hj) (HPA.out _ (ext_trans HX.out extA))) HIA.out (by first | assumption | go_simp) (by first | assumption | go_simp) (Or.inr (by first | omega | (simp <;> omega))) (by first | omega | (simp <;> omega))) one_mk (fun j hj _ => ⟨trivial, fun e => by have := HOL.out j e.symm; rcases hj with h | h <;> omega⟩) (c_len hol) (cm_byt hol) (by first | omega | (simp <;> omega)) ?_; intro v9 w9 hown9 hg9 hat9; obtain ⟨a9, n9, c9, rfl⟩ := osl_slice hown9; have hx9 : Ext wb w9 := ext_grow (ext_trans HXB.out extA) hg9 (fun j hj => (HOL.out j hj).1); have HV9 := Lib.hid hown9)))
          go_ret
          exact ⟨_, rfl, by rw [← HE9.out]; exact osl_rsl gMk HV9.out (G := fun _ => True) (fun _ _ _ => trivial) (fun _ _ => trivial), ext_trans HWB.out hx9⟩
end Go.Proofs.YtfgfdohppgoajaaGreat
