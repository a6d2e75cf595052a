/- What is wrong with a deed. -/
import Derived.Test.YtiladkinndgeaaaQ20aeae9040
import Derived.Test.YtiladkinndgeaaaQ53c916c439
import Derived.Test.YtiladkinndgeaaaQc313ebd2df
set_option linter.unusedVariables false
set_option linter.unusedSimpArgs false
namespace Go.Proofs.Ytiladkinndgeaaa
open Go Go.RowKit Go.BigFrame Cp

def checkD (d : De) : Int :=
  if d.kind = 1 then (if checkR d.run ≠ 0 then checkR d.run else if noneM d.mark = false ∨ d.many ≠ 0 then 1 else 0)
  else if d.kind = 2 then
    (if checkM d.mark ≠ 0 then checkM d.mark else if noneM d.run.1 = false ∨ d.run.2 ≠ [] then 1 else if d.many < 1 ∨ 60 < d.many then 3 else (nextM d.mark (d.many - 1)).2)
  else 7
section
variable {d : De}
theorem checkD_put_bad (h : d.kind = 1) (h1 : ¬ checkR d.run = 0) : checkD d = checkR d.run := by unfold checkD; rw [if_pos h, if_pos h1]
theorem checkD_put_form (h : d.kind = 1) (h1 : checkR d.run = 0) (h2 : noneM d.mark = false ∨ d.many ≠ 0) : checkD d = 1 := by unfold checkD; rw [if_pos h, if_neg (by simpa using h1), if_pos h2]
theorem checkD_put_ok (h : d.kind = 1) (h1 : checkR d.run = 0) (h2 : noneM d.mark = true) (h3 : d.many = 0) : checkD d = 0 := by unfold checkD; rw [if_pos h, if_neg (by simpa using h1), if_neg (by rw [h2, h3]; simp)]
theorem checkD_take_bad (h0 : ¬ d.kind = 1) (h : d.kind = 2) (h1 : ¬ checkM d.mark = 0) : checkD d = checkM d.mark := by unfold checkD; rw [if_neg h0, if_pos h, if_pos h1]
theorem checkD_take_form (h0 : ¬ d.kind = 1) (h : d.kind = 2) (h1 : checkM d.mark = 0) (h2 : noneM d.run.1 = false ∨ d.run.2 ≠ []) : checkD d = 1 := by unfold checkD; rw [if_neg h0, if_pos h, if_neg (by simpa using h1), if_pos h2]
theorem checkD_take_range (h0 : ¬ d.kind = 1) (h : d.kind = 2) (h1 : checkM d.mark = 0) (h2 : noneM d.run.1 = true) (h3 : d.run.2 = []) (h4 : d.many < 1 ∨ 60 < d.many) : checkD d = 3 := by
  unfold checkD; rw [if_neg h0, if_pos h, if_neg (by simpa using h1), if_neg (by rw [h2, h3]; simp), if_pos h4]
theorem checkD_take_next (h0 : ¬ d.kind = 1) (h : d.kind = 2) (h1 : checkM d.mark = 0) (h2 : noneM d.run.1 = true) (h3 : d.run.2 = []) (h4 : ¬ (d.many < 1 ∨ 60 < d.many)) : checkD d = (nextM d.mark (d.many - 1)).2 := by
  unfold checkD; rw [if_neg h0, if_pos h, if_neg (by simpa using h1), if_neg (by rw [h2, h3]; simp), if_neg h4]
theorem checkD_kind (h0 : ¬ d.kind = 1) (h : ¬ d.kind = 2) : checkD d = 7 := by unfold checkD; rw [if_neg h0, if_neg h]
end
theorem rde_of {F : Nat → Prop} {w : World} {v u s : Value} {k c c2 m : Int} {p p2 : List Stp} {t : Tx} (hk : I64 k) (hp : RSl RStp 2 F w v p) (hc : I64 c) (ht : RTx s t) (hq : RSl RStp 2 F w u p2) (hc2 : I64 c2) (hm : I64 m) :
    RDe F w [.int .i64 k, v, .int .i64 c, s, u, .int .i64 c2, .int .i64 m] ⟨k, ((p, c), t), (p2, c2), m⟩ := ⟨v, s, u, rfl, hk, hp, hc, ht, hq, hc2, hm⟩

set_option maxRecDepth 100000 in
set_option maxHeartbeats 4000000 in
theorem checkDeedP_any {F : Nat → Prop} {w : World} {cs : List Value} {d : De} (h : RDe F w cs d) :
    Calls Try.prog 43 #[.agg cs.toArray] w fun e w' => e = .returned (.int .i64 (checkD d)) ∧ Ext w w' := by
  obtain ⟨v, u, x, rfl, hk, hl, hi, hu, hm, hj, hn⟩ := h
  obtain ⟨kd, ⟨⟨l, c⟩, t⟩, ⟨m, e⟩, mn⟩ := d
  simp only at hk hl hi hu hm hj hn ⊢
  obtain ⟨s, rfl, rfl, hs⟩ := tx_bytes hu
  have HR := Lib.hid (fun (W : World) (hx : Ext w W) => checkRunP_any (rrn_of (hl.ext gStp hx) hi hu))
  have HK := Lib.hid (fun (W : World) (hx : Ext w W) => check_any (rmk_of' (hm.ext gStp hx) hj))
  have HN1 := Lib.hid (fun (W : World) (hx : Ext w W) => noneP_any (rmk_of' (hl.ext gStp hx) hi))
  have HN2 := Lib.hid (fun (W : World) (hx : Ext w W) => noneP_any (rmk_of' (hm.ext gStp hx) hj))
  have HX := Lib.hid (fun (W : World) (hx : Ext w W) => next_any (k := mn - 1) (rmk_of' (hm.ext gStp hx) hj))
  obtain ⟨a1, n1, c1, rfl⟩ := hl.slice
  obtain ⟨a2, n2, c2, rfl⟩ := hm.slice
  obtain ⟨hn1, hn2⟩ := hn
  clear hl hi hu hm hj hk
  by_cases k1 : kd = 1
  · subst k1
    by_cases h0 : checkR ((l, c), s.data.toList) = 0
    · have H0 := Lib.hid h0
      rw [h0] at HR
      clear h0
      cases g : noneM (m, e) with
      | false =>
        rw [checkD_put_form rfl H0.out (.inl g)]
        rw [g] at HN2
        clear HN1 HK
        go_enter Try.func43, Try.ntmps43
        go_wp2_with (first
          | (go_at_call 60; (with_reducible refine (HR.out _ extA).mono ?_); rintro e' w1 ⟨rfl, hx1⟩; have hz1 := hx1.size; (try simp at hz1); have hb1_0 : w.heap.size < w1.heap.size := (by omega); have p0 := (hx1.cells (w.heap.size) (0) (by first | omega | (simp <;> omega))).trans (show _ = some (.int .i64 1) by first | (with_reducible assumption) | go_simp); have p1 := (hx1.cells (w.heap.size) (1) (by first | omega | (simp <;> omega))).trans (show _ = some (.slice a1 n1 c1) by first | (with_reducible assumption) | go_simp); have p2 := (hx1.cells (w.heap.size) (2) (by first | omega | (simp <;> omega))).trans (show _ = some (.int .i64 c) by first | (with_reducible assumption) | go_simp); have p3 := (hx1.cells (w.heap.size) (3) (by first | omega | (simp <;> omega))).trans (show _ = some (.string s) by first | (with_reducible assumption) | go_simp); have p4 := (hx1.cells (w.heap.size) (4) (by first | omega | (simp <;> omega))).trans (show _ = some (.slice a2 n2 c2) by first | (with_reducible assumption) | go_simp); have p5 := (hx1.cells (w.heap.size) (5) (by first | omega | (simp <;> omega))).trans (show _ = some (.int .i64 e) by first | (with_reducible assumption) | go_simp); have p6 := (hx1.cells (w.heap.size) (6) (by first | omega | (simp <;> omega))).trans (show _ = some (.int .i64 mn) by first | (with_reducible assumption) | go_simp))
          | (go_at_call 62; (with_reducible refine (HK.out _ extA).mono ?_); rintro e' w2 ⟨rfl, hx2⟩; have hz2 := hx2.size; (try simp at hz2); have hb2_0 : w.heap.size < w2.heap.size := (by omega); have q0 := (hx2.cells (w.heap.size) (0) (by first | omega | (simp <;> omega))).trans (show _ = some (.int .i64 1) by first | (with_reducible assumption) | go_simp); have q1 := (hx2.cells (w.heap.size) (1) (by first | omega | (simp <;> omega))).trans (show _ = some (.slice a1 n1 c1) by first | (with_reducible assumption) | go_simp); have q2 := (hx2.cells (w.heap.size) (2) (by first | omega | (simp <;> omega))).trans (show _ = some (.int .i64 c) by first | (with_reducible assumption) | go_simp); have q3 := (hx2.cells (w.heap.size) (3) (by first | omega | (simp <;> omega))).trans (show _ = some (.string s) by first | (with_reducible assumption) | go_simp); have q4 := (hx2.cells (w.heap.size) (4) (by first | omega | (simp <;> omega))).trans (show _ = some (.slice a2 n2 c2) by first | (with_reducible assumption) | go_simp); have q5 := (hx2.cells (w.heap.size) (5) (by first | omega | (simp <;> omega))).trans (show _ = some (.int .i64 e) by first | (with_reducible assumption) | go_simp); have q6 := (hx2.cells (w.heap.size) (6) (by first | omega | (simp <;> omega))).trans (show _ = some (.int .i64 mn) by first | (with_reducible assumption) | go_simp))
          | (go_at_call 61; (with_reducible refine (HN2.out _ extA).mono ?_); rintro e' w4 ⟨rfl, hx4⟩; have hz4 := hx4.size; (try simp at hz4); have hb4_0 : w.heap.size < w4.heap.size := (by omega); have s0 := (hx4.cells (w.heap.size) (0) (by first | omega | (simp <;> omega))).trans (show _ = some (.int .i64 1) by first | (with_reducible assumption) | go_simp); have s1 := (hx4.cells (w.heap.size) (1) (by first | omega | (simp <;> omega))).trans (show _ = some (.slice a1 n1 c1) by first | (with_reducible assumption) | go_simp); have s2 := (hx4.cells (w.heap.size) (2) (by first | omega | (simp <;> omega))).trans (show _ = some (.int .i64 c) by first | (with_reducible assumption) | go_simp); have s3 := (hx4.cells (w.heap.size) (3) (by first | omega | (simp <;> omega))).trans (show _ = some (.string s) by first | (with_reducible assumption) | go_simp); have s4 := (hx4.cells (w.heap.size) (4) (by first | omega | (simp <;> omega))).trans (show _ = some (.slice a2 n2 c2) by first | (with_reducible assumption) | go_simp); have s5 := (hx4.cells (w.heap.size) (5) (by first | omega | (simp <;> omega))).trans (show _ = some (.int .i64 e) by first | (with_reducible assumption) | go_simp); have s6 := (hx4.cells (w.heap.size) (6) (by first | omega | (simp <;> omega))).trans (show _ = some (.int .i64 mn) by first | (with_reducible assumption) | go_simp))
          | (go_at_call 61; (with_reducible refine (HN1.out _ extA).mono ?_); rintro e' w3 ⟨rfl, hx3⟩; have hz3 := hx3.size; (try simp at hz3); have hb3_0 : w.heap.size < w3.heap.size := (by omega); have r0 := (hx3.cells (w.heap.size) (0) (by first | omega | (simp <;> omega))).trans (show _ = some (.int .i64 1) by first | (with_reducible assumption) | go_simp); have r1 := (hx3.cells (w.heap.size) (1) (by first | omega | (simp <;> omega))).trans (show _ = some (.slice a1 n1 c1) by first | (with_reducible assumption) | go_simp); have r2 := (hx3.cells (w.heap.size) (2) (by first | omega | (simp <;> omega))).trans (show _ = some (.int .i64 c) by first | (with_reducible assumption) | go_simp); have r3 := (hx3.cells (w.heap.size) (3) (by first | omega | (simp <;> omega))).trans (show _ = some (.string s) by first | (with_reducible assumption) | go_simp); have r4 := (hx3.cells (w.heap.size) (4) (by first | omega | (simp <;> omega))).trans (show _ = some (.slice a2 n2 c2) by first | (with_reducible assumption) | go_simp); have r5 := (hx3.cells (w.heap.size) (5) (by first | omega | (simp <;> omega))).trans (show _ = some (.int .i64 e) by first | (with_reducible assumption) | go_simp); have r6 := (hx3.cells (w.heap.size) (6) (by first | omega | (simp <;> omega))).trans (show _ = some (.int .i64 mn) by first | (with_reducible assumption) | go_simp))
          | (go_at_call 63; (with_reducible refine (HX.out _ extA).mono ?_); rintro e' w5 ⟨cs5, rfl, hm5, hx5⟩; obtain ⟨v5, rfl, hv5, _⟩ := hm5; obtain ⟨a5, n5, c5, rfl⟩ := hv5.slice; clear hv5))
        go_ret
        exact ⟨rfl, extA⟩
      | true =>
        rw [g] at HN2
        clear HN1 HK
        by_cases h1 : mn = 0
        · rw [checkD_put_ok rfl H0.out g h1]
          have t1 : (mn != 0) = false := by simpa using h1
          clear h1
          go_enter Try.func43, Try.ntmps43
          go_wp2_with (first
            | (go_at_call 60; (with_reducible refine (HR.out _ extA).mono ?_); rintro e' w1 ⟨rfl, hx1⟩; have hz1 := hx1.size; (try simp at hz1); have hb1_0 : w.heap.size < w1.heap.size := (by omega); have p0 := (hx1.cells (w.heap.size) (0) (by first | omega | (simp <;> omega))).trans (show _ = some (.int .i64 1) by first | (with_reducible assumption) | go_simp); have p1 := (hx1.cells (w.heap.size) (1) (by first | omega | (simp <;> omega))).trans (show _ = some (.slice a1 n1 c1) by first | (with_reducible assumption) | go_simp); have p2 := (hx1.cells (w.heap.size) (2) (by first | omega | (simp <;> omega))).trans (show _ = some (.int .i64 c) by first | (with_reducible assumption) | go_simp); have p3 := (hx1.cells (w.heap.size) (3) (by first | omega | (simp <;> omega))).trans (show _ = some (.string s) by first | (with_reducible assumption) | go_simp); have p4 := (hx1.cells (w.heap.size) (4) (by first | omega | (simp <;> omega))).trans (show _ = some (.slice a2 n2 c2) by first | (with_reducible assumption) | go_simp); have p5 := (hx1.cells (w.heap.size) (5) (by first | omega | (simp <;> omega))).trans (show _ = some (.int .i64 e) by first | (with_reducible assumption) | go_simp); have p6 := (hx1.cells (w.heap.size) (6) (by first | omega | (simp <;> omega))).trans (show _ = some (.int .i64 mn) by first | (with_reducible assumption) | go_simp))
            | (go_at_call 62; (with_reducible refine (HK.out _ extA).mono ?_); rintro e' w2 ⟨rfl, hx2⟩; have hz2 := hx2.size; (try simp at hz2); have hb2_0 : w.heap.size < w2.heap.size := (by omega); have q0 := (hx2.cells (w.heap.size) (0) (by first | omega | (simp <;> omega))).trans (show _ = some (.int .i64 1) by first | (with_reducible assumption) | go_simp); have q1 := (hx2.cells (w.heap.size) (1) (by first | omega | (simp <;> omega))).trans (show _ = some (.slice a1 n1 c1) by first | (with_reducible assumption) | go_simp); have q2 := (hx2.cells (w.heap.size) (2) (by first | omega | (simp <;> omega))).trans (show _ = some (.int .i64 c) by first | (with_reducible assumption) | go_simp); have q3 := (hx2.cells (w.heap.size) (3) (by first | omega | (simp <;> omega))).trans (show _ = some (.string s) by first | (with_reducible assumption) | go_simp); have q4 := (hx2.cells (w.heap.size) (4) (by first | omega | (simp <;> omega))).trans (show _ = some (.slice a2 n2 c2) by first | (with_reducible assumption) | go_simp); have q5 := (hx2.cells (w.heap.size) (5) (by first | omega | (simp <;> omega))).trans (show _ = some (.int .i64 e) by first | (with_reducible assumption) | go_simp); have q6 := (hx2.cells (w.heap.size) (6) (by first | omega | (simp <;> omega))).trans (show _ = some (.int .i64 mn) by first | (with_reducible assumption) | go_simp))
            | (go_at_call 61; (with_reducible refine (HN2.out _ extA).mono ?_); rintro e' w4 ⟨rfl, hx4⟩; have hz4 := hx4.size; (try simp at hz4); have hb4_0 : w.heap.size < w4.heap.size := (by omega); have s0 := (hx4.cells (w.heap.size) (0) (by first | omega | (simp <;> omega))).trans (show _ = some (.int .i64 1) by first | (with_reducible assumption) | go_simp); have s1 := (hx4.cells (w.heap.size) (1) (by first | omega | (simp <;> omega))).trans (show _ = some (.slice a1 n1 c1) by first | (with_reducible assumption) | go_simp); have s2 := (hx4.cells (w.heap.size) (2) (by first | omega | (simp <;> omega))).trans (show _ = some (.int .i64 c) by first | (with_reducible assumption) | go_simp); have s3 := (hx4.cells (w.heap.size) (3) (by first | omega | (simp <;> omega))).trans (show _ = some (.string s) by first | (with_reducible assumption) | go_simp); have s4 := (hx4.cells (w.heap.size) (4) (by first | omega | (simp <;> omega))).trans (show _ = some (.slice a2 n2 c2) by first | (with_reducible assumption) | go_simp); have s5 := (hx4.cells (w.heap.size) (5) (by first | omega | (simp <;> omega))).trans (show _ = some (.int .i64 e) by first | (with_reducible assumption) | go_simp); have s6 := (hx4.cells (w.heap.size) (6) (by first | omega | (simp <;> omega))).trans (show _ = some (.int .i64 mn) by first | (with_reducible assumption) | go_simp))
            | (go_at_call 61; (with_reducible refine (HN1.out _ extA).mono ?_); rintro e' w3 ⟨rfl, hx3⟩; have hz3 := hx3.size; (try simp at hz3); have hb3_0 : w.heap.size < w3.heap.size := (by omega); have r0 := (hx3.cells (w.heap.size) (0) (by first | omega | (simp <;> omega))).trans (show _ = some (.int .i64 1) by first | (with_reducible assumption) | go_simp); have r1 := (hx3.cells (w.heap.size) (1) (by first | omega | (simp <;> omega))).trans (show _ = some (.slice a1 n1 c1) by first | (with_reducible assumption) | go_simp); have r2 := (hx3.cells (w.heap.size) (2) (by first | omega | (simp <;> omega))).trans (show _ = some (.int .i64 c) by first | (with_reducible assumption) | go_simp); have r3 := (hx3.cells (w.heap.size) (3) (by first | omega | (simp <;> omega))).trans (show _ = some (.string s) by first | (with_reducible assumption) | go_simp); have r4 := (hx3.cells (w.heap.size) (4) (by first | omega | (simp <;> omega))).trans (show _ = some (.slice a2 n2 c2) by first | (with_reducible assumption) | go_simp); have r5 := (hx3.cells (w.heap.size) (5) (by first | omega | (simp <;> omega))).trans (show _ = some (.int .i64 e) by first | (with_reducible assumption) | go_simp); have r6 := (hx3.cells (w.heap.size) (6) (by first | omega | (simp <;> omega))).trans (show _ = some (.int .i64 mn) by first | (with_reducible assumption) | go_simp))
            | (go_at_call 63; (with_reducible refine (HX.out _ extA).mono ?_); rintro e' w5 ⟨cs5, rfl, hm5, hx5⟩; obtain ⟨v5, rfl, hv5, _⟩ := hm5; obtain ⟨a5, n5, c5, rfl⟩ := hv5.slice; clear hv5))
          go_ret
          exact ⟨rfl, extA⟩
        · rw [checkD_put_form rfl H0.out (.inr h1)]
          have t1 : (mn != 0) = true := by simpa using h1
          clear h1
          go_enter Try.func43, Try.ntmps43
          go_wp2_with (first
            | (go_at_call 60; (with_reducible refine (HR.out _ extA).mono ?_); rintro e' w1 ⟨rfl, hx1⟩; have hz1 := hx1.size; (try simp at hz1); have hb1_0 : w.heap.size < w1.heap.size := (by omega); have p0 := (hx1.cells (w.heap.size) (0) (by first | omega | (simp <;> omega))).trans (show _ = some (.int .i64 1) by first | (with_reducible assumption) | go_simp); have p1 := (hx1.cells (w.heap.size) (1) (by first | omega | (simp <;> omega))).trans (show _ = some (.slice a1 n1 c1) by first | (with_reducible assumption) | go_simp); have p2 := (hx1.cells (w.heap.size) (2) (by first | omega | (simp <;> omega))).trans (show _ = some (.int .i64 c) by first | (with_reducible assumption) | go_simp); have p3 := (hx1.cells (w.heap.size) (3) (by first | omega | (simp <;> omega))).trans (show _ = some (.string s) by first | (with_reducible assumption) | go_simp); have p4 := (hx1.cells (w.heap.size) (4) (by first | omega | (simp <;> omega))).trans (show _ = some (.slice a2 n2 c2) by first | (with_reducible assumption) | go_simp); have p5 := (hx1.cells (w.heap.size) (5) (by first | omega | (simp <;> omega))).trans (show _ = some (.int .i64 e) by first | (with_reducible assumption) | go_simp); have p6 := (hx1.cells (w.heap.size) (6) (by first | omega | (simp <;> omega))).trans (show _ = some (.int .i64 mn) by first | (with_reducible assumption) | go_simp))
            | (go_at_call 62; (with_reducible refine (HK.out _ extA).mono ?_); rintro e' w2 ⟨rfl, hx2⟩; have hz2 := hx2.size; (try simp at hz2); have hb2_0 : w.heap.size < w2.heap.size := (by omega); have q0 := (hx2.cells (w.heap.size) (0) (by first | omega | (simp <;> omega))).trans (show _ = some (.int .i64 1) by first | (with_reducible assumption) | go_simp); have q1 := (hx2.cells (w.heap.size) (1) (by first | omega | (simp <;> omega))).trans (show _ = some (.slice a1 n1 c1) by first | (with_reducible assumption) | go_simp); have q2 := (hx2.cells (w.heap.size) (2) (by first | omega | (simp <;> omega))).trans (show _ = some (.int .i64 c) by first | (with_reducible assumption) | go_simp); have q3 := (hx2.cells (w.heap.size) (3) (by first | omega | (simp <;> omega))).trans (show _ = some (.string s) by first | (with_reducible assumption) | go_simp); have q4 := (hx2.cells (w.heap.size) (4) (by first | omega | (simp <;> omega))).trans (show _ = some (.slice a2 n2 c2) by first | (with_reducible assumption) | go_simp); have q5 := (hx2.cells (w.heap.size) (5) (by first | omega | (simp <;> omega))).trans (show _ = some (.int .i64 e) by first | (with_reducible assumption) | go_simp); have q6 := (hx2.cells (w.heap.size) (6) (by first | omega | (simp <;> omega))).trans (show _ = some (.int .i64 mn) by first | (with_reducible assumption) | go_simp))
            | (go_at_call 61; (with_reducible refine (HN2.out _ extA).mono ?_); rintro e' w4 ⟨rfl, hx4⟩; have hz4 := hx4.size; (try simp at hz4); have hb4_0 : w.heap.size < w4.heap.size := (by omega); have s0 := (hx4.cells (w.heap.size) (0) (by first | omega | (simp <;> omega))).trans (show _ = some (.int .i64 1) by first | (with_reducible assumption) | go_simp); have s1 := (hx4.cells (w.heap.size) (1) (by first | omega | (simp <;> omega))).trans (show _ = some (.slice a1 n1 c1) by first | (with_reducible assumption) | go_simp); have s2 := (hx4.cells (w.heap.size) (2) (by first | omega | (simp <;> omega))).trans (show _ = some (.int .i64 c) by first | (with_reducible assumption) | go_simp); have s3 := (hx4.cells (w.heap.size) (3) (by first | omega | (simp <;> omega))).trans (show _ = some (.string s) by first | (with_reducible assumption) | go_simp); have s4 := (hx4.cells (w.heap.size) (4) (by first | omega | (simp <;> omega))).trans (show _ = some (.slice a2 n2 c2) by first | (with_reducible assumption) | go_simp); have s5 := (hx4.cells (w.heap.size) (5) (by first | omega | (simp <;> omega))).trans (show _ = some (.int .i64 e) by first | (with_reducible assumption) | go_simp); have s6 := (hx4.cells (w.heap.size) (6) (by first | omega | (simp <;> omega))).trans (show _ = some (.int .i64 mn) by first | (with_reducible assumption) | go_simp))
            | (go_at_call 61; (with_reducible refine (HN1.out _ extA).mono ?_); rintro e' w3 ⟨rfl, hx3⟩; have hz3 := hx3.size; (try simp at hz3); have hb3_0 : w.heap.size < w3.heap.size := (by omega); have r0 := (hx3.cells (w.heap.size) (0) (by first | omega | (simp <;> omega))).trans (show _ = some (.int .i64 1) by first | (with_reducible assumption) | go_simp); have r1 := (hx3.cells (w.heap.size) (1) (by first | omega | (simp <;> omega))).trans (show _ = some (.slice a1 n1 c1) by first | (with_reducible assumption) | go_simp); have r2 := (hx3.cells (w.heap.size) (2) (by first | omega | (simp <;> omega))).trans (show _ = some (.int .i64 c) by first | (with_reducible assumption) | go_simp); have r3 := (hx3.cells (w.heap.size) (3) (by first | omega | (simp <;> omega))).trans (show _ = some (.string s) by first | (with_reducible assumption) | go_simp); have r4 := (hx3.cells (w.heap.size) (4) (by first | omega | (simp <;> omega))).trans (show _ = some (.slice a2 n2 c2) by first | (with_reducible assumption) | go_simp); have r5 := (hx3.cells (w.heap.size) (5) (by first | omega | (simp <;> omega))).trans (show _ = some (.int .i64 e) by first | (with_reducible assumption) | go_simp); have r6 := (hx3.cells (w.heap.size) (6) (by first | omega | (simp <;> omega))).trans (show _ = some (.int .i64 mn) by first | (with_reducible assumption) | go_simp))
            | (go_at_call 63; (with_reducible refine (HX.out _ extA).mono ?_); rintro e' w5 ⟨cs5, rfl, hm5, hx5⟩; obtain ⟨v5, rfl, hv5, _⟩ := hm5; obtain ⟨a5, n5, c5, rfl⟩ := hv5.slice; clear hv5))
          go_ret
          exact ⟨rfl, extA⟩
    · rw [checkD_put_bad rfl h0]
      simp only
      have t1 : (checkR ((l, c), s.data.toList) != 0) = true := by simpa using h0
      have t2 : (checkR ((l, c), s.data.toList) == 0) = false := by simpa using h0
      generalize checkR ((l, c), s.data.toList) = r at *
      clear h0
      go_enter Try.func43, Try.ntmps43
      go_wp2_with (first
        | (go_at_call 60; (with_reducible refine (HR.out _ extA).mono ?_); rintro e' w1 ⟨rfl, hx1⟩; have hz1 := hx1.size; (try simp at hz1); have hb1_0 : w.heap.size < w1.heap.size := (by omega); have p0 := (hx1.cells (w.heap.size) (0) (by first | omega | (simp <;> omega))).trans (show _ = some (.int .i64 1) by first | (with_reducible assumption) | go_simp); have p1 := (hx1.cells (w.heap.size) (1) (by first | omega | (simp <;> omega))).trans (show _ = some (.slice a1 n1 c1) by first | (with_reducible assumption) | go_simp); have p2 := (hx1.cells (w.heap.size) (2) (by first | omega | (simp <;> omega))).trans (show _ = some (.int .i64 c) by first | (with_reducible assumption) | go_simp); have p3 := (hx1.cells (w.heap.size) (3) (by first | omega | (simp <;> omega))).trans (show _ = some (.string s) by first | (with_reducible assumption) | go_simp); have p4 := (hx1.cells (w.heap.size) (4) (by first | omega | (simp <;> omega))).trans (show _ = some (.slice a2 n2 c2) by first | (with_reducible assumption) | go_simp); have p5 := (hx1.cells (w.heap.size) (5) (by first | omega | (simp <;> omega))).trans (show _ = some (.int .i64 e) by first | (with_reducible assumption) | go_simp); have p6 := (hx1.cells (w.heap.size) (6) (by first | omega | (simp <;> omega))).trans (show _ = some (.int .i64 mn) by first | (with_reducible assumption) | go_simp))
        | (go_at_call 62; (with_reducible refine (HK.out _ extA).mono ?_); rintro e' w2 ⟨rfl, hx2⟩; have hz2 := hx2.size; (try simp at hz2); have hb2_0 : w.heap.size < w2.heap.size := (by omega); have q0 := (hx2.cells (w.heap.size) (0) (by first | omega | (simp <;> omega))).trans (show _ = some (.int .i64 1) by first | (with_reducible assumption) | go_simp); have q1 := (hx2.cells (w.heap.size) (1) (by first | omega | (simp <;> omega))).trans (show _ = some (.slice a1 n1 c1) by first | (with_reducible assumption) | go_simp); have q2 := (hx2.cells (w.heap.size) (2) (by first | omega | (simp <;> omega))).trans (show _ = some (.int .i64 c) by first | (with_reducible assumption) | go_simp); have q3 := (hx2.cells (w.heap.size) (3) (by first | omega | (simp <;> omega))).trans (show _ = some (.string s) by first | (with_reducible assumption) | go_simp); have q4 := (hx2.cells (w.heap.size) (4) (by first | omega | (simp <;> omega))).trans (show _ = some (.slice a2 n2 c2) by first | (with_reducible assumption) | go_simp); have q5 := (hx2.cells (w.heap.size) (5) (by first | omega | (simp <;> omega))).trans (show _ = some (.int .i64 e) by first | (with_reducible assumption) | go_simp); have q6 := (hx2.cells (w.heap.size) (6) (by first | omega | (simp <;> omega))).trans (show _ = some (.int .i64 mn) by first | (with_reducible assumption) | go_simp))
        | (go_at_call 61; (with_reducible refine (HN2.out _ extA).mono ?_); rintro e' w4 ⟨rfl, hx4⟩; have hz4 := hx4.size; (try simp at hz4); have hb4_0 : w.heap.size < w4.heap.size := (by omega); have s0 := (hx4.cells (w.heap.size) (0) (by first | omega | (simp <;> omega))).trans (show _ = some (.int .i64 1) by first | (with_reducible assumption) | go_simp); have s1 := (hx4.cells (w.heap.size) (1) (by first | omega | (simp <;> omega))).trans (show _ = some (.slice a1 n1 c1) by first | (with_reducible assumption) | go_simp); have s2 := (hx4.cells (w.heap.size) (2) (by first | omega | (simp <;> omega))).trans (show _ = some (.int .i64 c) by first | (with_reducible assumption) | go_simp); have s3 := (hx4.cells (w.heap.size) (3) (by first | omega | (simp <;> omega))).trans (show _ = some (.string s) by first | (with_reducible assumption) | go_simp); have s4 := (hx4.cells (w.heap.size) (4) (by first | omega | (simp <;> omega))).trans (show _ = some (.slice a2 n2 c2) by first | (with_reducible assumption) | go_simp); have s5 := (hx4.cells (w.heap.size) (5) (by first | omega | (simp <;> omega))).trans (show _ = some (.int .i64 e) by first | (with_reducible assumption) | go_simp); have s6 := (hx4.cells (w.heap.size) (6) (by first | omega | (simp <;> omega))).trans (show _ = some (.int .i64 mn) by first | (with_reducible assumption) | go_simp))
        | (go_at_call 61; (with_reducible refine (HN1.out _ extA).mono ?_); rintro e' w3 ⟨rfl, hx3⟩; have hz3 := hx3.size; (try simp at hz3); have hb3_0 : w.heap.size < w3.heap.size := (by omega); have r0 := (hx3.cells (w.heap.size) (0) (by first | omega | (simp <;> omega))).trans (show _ = some (.int .i64 1) by first | (with_reducible assumption) | go_simp); have r1 := (hx3.cells (w.heap.size) (1) (by first | omega | (simp <;> omega))).trans (show _ = some (.slice a1 n1 c1) by first | (with_reducible assumption) | go_simp); have r2 := (hx3.cells (w.heap.size) (2) (by first | omega | (simp <;> omega))).trans (show _ = some (.int .i64 c) by first | (with_reducible assumption) | go_simp); have r3 := (hx3.cells (w.heap.size) (3) (by first | omega | (simp <;> omega))).trans (show _ = some (.string s) by first | (with_reducible assumption) | go_simp); have r4 := (hx3.cells (w.heap.size) (4) (by first | omega | (simp <;> omega))).trans (show _ = some (.slice a2 n2 c2) by first | (with_reducible assumption) | go_simp); have r5 := (hx3.cells (w.heap.size) (5) (by first | omega | (simp <;> omega))).trans (show _ = some (.int .i64 e) by first | (with_reducible assumption) | go_simp); have r6 := (hx3.cells (w.heap.size) (6) (by first | omega | (simp <;> omega))).trans (show _ = some (.int .i64 mn) by first | (with_reducible assumption) | go_simp))
        | (go_at_call 63; (with_reducible refine (HX.out _ extA).mono ?_); rintro e' w5 ⟨cs5, rfl, hm5, hx5⟩; obtain ⟨v5, rfl, hv5, _⟩ := hm5; obtain ⟨a5, n5, c5, rfl⟩ := hv5.slice; clear hv5))
      go_ret
      exact ⟨rfl, extA⟩
  · have t0 : (kd == 1) = false := by simpa using k1
    by_cases k2 : kd = 2
    · subst k2
      by_cases h0 : checkM (m, e) = 0
      · have H0 := Lib.hid h0
        rw [h0] at HK
        clear h0
        cases g : noneM (l, c) with
        | false =>
          rw [checkD_take_form k1 rfl H0.out (.inl g)]
          rw [g] at HN1
          clear k1 HN2
          go_enter Try.func43, Try.ntmps43
          go_wp2_with (first
            | (go_at_call 60; (with_reducible refine (HR.out _ extA).mono ?_); rintro e' w1 ⟨rfl, hx1⟩; have hz1 := hx1.size; (try simp at hz1); have hb1_0 : w.heap.size < w1.heap.size := (by omega); have p0 := (hx1.cells (w.heap.size) (0) (by first | omega | (simp <;> omega))).trans (show _ = some (.int .i64 2) by first | (with_reducible assumption) | go_simp); have p1 := (hx1.cells (w.heap.size) (1) (by first | omega | (simp <;> omega))).trans (show _ = some (.slice a1 n1 c1) by first | (with_reducible assumption) | go_simp); have p2 := (hx1.cells (w.heap.size) (2) (by first | omega | (simp <;> omega))).trans (show _ = some (.int .i64 c) by first | (with_reducible assumption) | go_simp); have p3 := (hx1.cells (w.heap.size) (3) (by first | omega | (simp <;> omega))).trans (show _ = some (.string s) by first | (with_reducible assumption) | go_simp); have p4 := (hx1.cells (w.heap.size) (4) (by first | omega | (simp <;> omega))).trans (show _ = some (.slice a2 n2 c2) by first | (with_reducible assumption) | go_simp); have p5 := (hx1.cells (w.heap.size) (5) (by first | omega | (simp <;> omega))).trans (show _ = some (.int .i64 e) by first | (with_reducible assumption) | go_simp); have p6 := (hx1.cells (w.heap.size) (6) (by first | omega | (simp <;> omega))).trans (show _ = some (.int .i64 mn) by first | (with_reducible assumption) | go_simp))
            | (go_at_call 62; (with_reducible refine (HK.out _ extA).mono ?_); rintro e' w2 ⟨rfl, hx2⟩; have hz2 := hx2.size; (try simp at hz2); have hb2_0 : w.heap.size < w2.heap.size := (by omega); have q0 := (hx2.cells (w.heap.size) (0) (by first | omega | (simp <;> omega))).trans (show _ = some (.int .i64 2) by first | (with_reducible assumption) | go_simp); have q1 := (hx2.cells (w.heap.size) (1) (by first | omega | (simp <;> omega))).trans (show _ = some (.slice a1 n1 c1) by first | (with_reducible assumption) | go_simp); have q2 := (hx2.cells (w.heap.size) (2) (by first | omega | (simp <;> omega))).trans (show _ = some (.int .i64 c) by first | (with_reducible assumption) | go_simp); have q3 := (hx2.cells (w.heap.size) (3) (by first | omega | (simp <;> omega))).trans (show _ = some (.string s) by first | (with_reducible assumption) | go_simp); have q4 := (hx2.cells (w.heap.size) (4) (by first | omega | (simp <;> omega))).trans (show _ = some (.slice a2 n2 c2) by first | (with_reducible assumption) | go_simp); have q5 := (hx2.cells (w.heap.size) (5) (by first | omega | (simp <;> omega))).trans (show _ = some (.int .i64 e) by first | (with_reducible assumption) | go_simp); have q6 := (hx2.cells (w.heap.size) (6) (by first | omega | (simp <;> omega))).trans (show _ = some (.int .i64 mn) by first | (with_reducible assumption) | go_simp))
            | (go_at_call 61; (with_reducible refine (HN2.out _ extA).mono ?_); rintro e' w4 ⟨rfl, hx4⟩; have hz4 := hx4.size; (try simp at hz4); have hb4_0 : w.heap.size < w4.heap.size := (by omega); have s0 := (hx4.cells (w.heap.size) (0) (by first | omega | (simp <;> omega))).trans (show _ = some (.int .i64 2) by first | (with_reducible assumption) | go_simp); have s1 := (hx4.cells (w.heap.size) (1) (by first | omega | (simp <;> omega))).trans (show _ = some (.slice a1 n1 c1) by first | (with_reducible assumption) | go_simp); have s2 := (hx4.cells (w.heap.size) (2) (by first | omega | (simp <;> omega))).trans (show _ = some (.int .i64 c) by first | (with_reducible assumption) | go_simp); have s3 := (hx4.cells (w.heap.size) (3) (by first | omega | (simp <;> omega))).trans (show _ = some (.string s) by first | (with_reducible assumption) | go_simp); have s4 := (hx4.cells (w.heap.size) (4) (by first | omega | (simp <;> omega))).trans (show _ = some (.slice a2 n2 c2) by first | (with_reducible assumption) | go_simp); have s5 := (hx4.cells (w.heap.size) (5) (by first | omega | (simp <;> omega))).trans (show _ = some (.int .i64 e) by first | (with_reducible assumption) | go_simp); have s6 := (hx4.cells (w.heap.size) (6) (by first | omega | (simp <;> omega))).trans (show _ = some (.int .i64 mn) by first | (with_reducible assumption) | go_simp))
            | (go_at_call 61; (with_reducible refine (HN1.out _ extA).mono ?_); rintro e' w3 ⟨rfl, hx3⟩; have hz3 := hx3.size; (try simp at hz3); have hb3_0 : w.heap.size < w3.heap.size := (by omega); have r0 := (hx3.cells (w.heap.size) (0) (by first | omega | (simp <;> omega))).trans (show _ = some (.int .i64 2) by first | (with_reducible assumption) | go_simp); have r1 := (hx3.cells (w.heap.size) (1) (by first | omega | (simp <;> omega))).trans (show _ = some (.slice a1 n1 c1) by first | (with_reducible assumption) | go_simp); have r2 := (hx3.cells (w.heap.size) (2) (by first | omega | (simp <;> omega))).trans (show _ = some (.int .i64 c) by first | (with_reducible assumption) | go_simp); have r3 := (hx3.cells (w.heap.size) (3) (by first | omega | (simp <;> omega))).trans (show _ = some (.string s) by first | (with_reducible assumption) | go_simp); have r4 := (hx3.cells (w.heap.size) (4) (by first | omega | (simp <;> omega))).trans (show _ = some (.slice a2 n2 c2) by first | (with_reducible assumption) | go_simp); have r5 := (hx3.cells (w.heap.size) (5) (by first | omega | (simp <;> omega))).trans (show _ = some (.int .i64 e) by first | (with_reducible assumption) | go_simp); have r6 := (hx3.cells (w.heap.size) (6) (by first | omega | (simp <;> omega))).trans (show _ = some (.int .i64 mn) by first | (with_reducible assumption) | go_simp))
            | (go_at_call 63; (with_reducible refine (HX.out _ extA).mono ?_); rintro e' w5 ⟨cs5, rfl, hm5, hx5⟩; obtain ⟨v5, rfl, hv5, _⟩ := hm5; obtain ⟨a5, n5, c5, rfl⟩ := hv5.slice; clear hv5))
          go_ret
          exact ⟨rfl, extA⟩
        | true =>
          rw [g] at HN1
          clear HN2
          by_cases h1 : s.size = 0
          · have t1 : s.toList.isEmpty = true := empty_yes h1
            by_cases h2 : mn < 1 ∨ 60 < mn
            · rw [checkD_take_range k1 rfl H0.out g (bytes_nil h1) h2]
              have t3 : inB mn 1 60 = false := by unfold inB; simp; omega
              rcases h2 with h2 | h2
              · have t2 : decide (mn < 1) = true := decide_eq_true h2
                clear k1 h1
                go_enter Try.func43, Try.ntmps43
                go_wp2_with (first
                  | (go_at_call 60; (with_reducible refine (HR.out _ extA).mono ?_); rintro e' w1 ⟨rfl, hx1⟩; have hz1 := hx1.size; (try simp at hz1); have hb1_0 : w.heap.size < w1.heap.size := (by omega); have p0 := (hx1.cells (w.heap.size) (0) (by first | omega | (simp <;> omega))).trans (show _ = some (.int .i64 2) by first | (with_reducible assumption) | go_simp); have p1 := (hx1.cells (w.heap.size) (1) (by first | omega | (simp <;> omega))).trans (show _ = some (.slice a1 n1 c1) by first | (with_reducible assumption) | go_simp); have p2 := (hx1.cells (w.heap.size) (2) (by first | omega | (simp <;> omega))).trans (show _ = some (.int .i64 c) by first | (with_reducible assumption) | go_simp); have p3 := (hx1.cells (w.heap.size) (3) (by first | omega | (simp <;> omega))).trans (show _ = some (.string s) by first | (with_reducible assumption) | go_simp); have p4 := (hx1.cells (w.heap.size) (4) (by first | omega | (simp <;> omega))).trans (show _ = some (.slice a2 n2 c2) by first | (with_reducible assumption) | go_simp); have p5 := (hx1.cells (w.heap.size) (5) (by first | omega | (simp <;> omega))).trans (show _ = some (.int .i64 e) by first | (with_reducible assumption) | go_simp); have p6 := (hx1.cells (w.heap.size) (6) (by first | omega | (simp <;> omega))).trans (show _ = some (.int .i64 mn) by first | (with_reducible assumption) | go_simp))
                  | (go_at_call 62; (with_reducible refine (HK.out _ extA).mono ?_); rintro e' w2 ⟨rfl, hx2⟩; have hz2 := hx2.size; (try simp at hz2); have hb2_0 : w.heap.size < w2.heap.size := (by omega); have q0 := (hx2.cells (w.heap.size) (0) (by first | omega | (simp <;> omega))).trans (show _ = some (.int .i64 2) by first | (with_reducible assumption) | go_simp); have q1 := (hx2.cells (w.heap.size) (1) (by first | omega | (simp <;> omega))).trans (show _ = some (.slice a1 n1 c1) by first | (with_reducible assumption) | go_simp); have q2 := (hx2.cells (w.heap.size) (2) (by first | omega | (simp <;> omega))).trans (show _ = some (.int .i64 c) by first | (with_reducible assumption) | go_simp); have q3 := (hx2.cells (w.heap.size) (3) (by first | omega | (simp <;> omega))).trans (show _ = some (.string s) by first | (with_reducible assumption) | go_simp); have q4 := (hx2.cells (w.heap.size) (4) (by first | omega | (simp <;> omega))).trans (show _ = some (.slice a2 n2 c2) by first | (with_reducible assumption) | go_simp); have q5 := (hx2.cells (w.heap.size) (5) (by first | omega | (simp <;> omega))).trans (show _ = some (.int .i64 e) by first | (with_reducible assumption) | go_simp); have q6 := (hx2.cells (w.heap.size) (6) (by first | omega | (simp <;> omega))).trans (show _ = some (.int .i64 mn) by first | (with_reducible assumption) | go_simp))
                  | (go_at_call 61; (with_reducible refine (HN2.out _ extA).mono ?_); rintro e' w4 ⟨rfl, hx4⟩; have hz4 := hx4.size; (try simp at hz4); have hb4_0 : w.heap.size < w4.heap.size := (by omega); have s0 := (hx4.cells (w.heap.size) (0) (by first | omega | (simp <;> omega))).trans (show _ = some (.int .i64 2) by first | (with_reducible assumption) | go_simp); have s1 := (hx4.cells (w.heap.size) (1) (by first | omega | (simp <;> omega))).trans (show _ = some (.slice a1 n1 c1) by first | (with_reducible assumption) | go_simp); have s2 := (hx4.cells (w.heap.size) (2) (by first | omega | (simp <;> omega))).trans (show _ = some (.int .i64 c) by first | (with_reducible assumption) | go_simp); have s3 := (hx4.cells (w.heap.size) (3) (by first | omega | (simp <;> omega))).trans (show _ = some (.string s) by first | (with_reducible assumption) | go_simp); have s4 := (hx4.cells (w.heap.size) (4) (by first | omega | (simp <;> omega))).trans (show _ = some (.slice a2 n2 c2) by first | (with_reducible assumption) | go_simp); have s5 := (hx4.cells (w.heap.size) (5) (by first | omega | (simp <;> omega))).trans (show _ = some (.int .i64 e) by first | (with_reducible assumption) | go_simp); have s6 := (hx4.cells (w.heap.size) (6) (by first | omega | (simp <;> omega))).trans (show _ = some (.int .i64 mn) by first | (with_reducible assumption) | go_simp))
                  | (go_at_call 61; (with_reducible refine (HN1.out _ extA).mono ?_); rintro e' w3 ⟨rfl, hx3⟩; have hz3 := hx3.size; (try simp at hz3); have hb3_0 : w.heap.size < w3.heap.size := (by omega); have r0 := (hx3.cells (w.heap.size) (0) (by first | omega | (simp <;> omega))).trans (show _ = some (.int .i64 2) by first | (with_reducible assumption) | go_simp); have r1 := (hx3.cells (w.heap.size) (1) (by first | omega | (simp <;> omega))).trans (show _ = some (.slice a1 n1 c1) by first | (with_reducible assumption) | go_simp); have r2 := (hx3.cells (w.heap.size) (2) (by first | omega | (simp <;> omega))).trans (show _ = some (.int .i64 c) by first | (with_reducible assumption) | go_simp); have r3 := (hx3.cells (w.heap.size) (3) (by first | omega | (simp <;> omega))).trans (show _ = some (.string s) by first | (with_reducible assumption) | go_simp); have r4 := (hx3.cells (w.heap.size) (4) (by first | omega | (simp <;> omega))).trans (show _ = some (.slice a2 n2 c2) by first | (with_reducible assumption) | go_simp); have r5 := (hx3.cells (w.heap.size) (5) (by first | omega | (simp <;> omega))).trans (show _ = some (.int .i64 e) by first | (with_reducible assumption) | go_simp); have r6 := (hx3.cells (w.heap.size) (6) (by first | omega | (simp <;> omega))).trans (show _ = some (.int .i64 mn) by first | (with_reducible assumption) | go_simp))
                  | (go_at_call 63; (with_reducible refine (HX.out _ extA).mono ?_); rintro e' w5 ⟨cs5, rfl, hm5, hx5⟩; obtain ⟨v5, rfl, hv5, _⟩ := hm5; obtain ⟨a5, n5, c5, rfl⟩ := hv5.slice; clear hv5))
                go_ret
                exact ⟨rfl, extA⟩
              · have t2 : decide (mn < 1) = false := decide_eq_false (by omega)
                have t4 : decide (60 < mn) = true := decide_eq_true h2
                clear k1 h1
                go_enter Try.func43, Try.ntmps43
                go_wp2_with (first
                  | (go_at_call 60; (with_reducible refine (HR.out _ extA).mono ?_); rintro e' w1 ⟨rfl, hx1⟩; have hz1 := hx1.size; (try simp at hz1); have hb1_0 : w.heap.size < w1.heap.size := (by omega); have p0 := (hx1.cells (w.heap.size) (0) (by first | omega | (simp <;> omega))).trans (show _ = some (.int .i64 2) by first | (with_reducible assumption) | go_simp); have p1 := (hx1.cells (w.heap.size) (1) (by first | omega | (simp <;> omega))).trans (show _ = some (.slice a1 n1 c1) by first | (with_reducible assumption) | go_simp); have p2 := (hx1.cells (w.heap.size) (2) (by first | omega | (simp <;> omega))).trans (show _ = some (.int .i64 c) by first | (with_reducible assumption) | go_simp); have p3 := (hx1.cells (w.heap.size) (3) (by first | omega | (simp <;> omega))).trans (show _ = some (.string s) by first | (with_reducible assumption) | go_simp); have p4 := (hx1.cells (w.heap.size) (4) (by first | omega | (simp <;> omega))).trans (show _ = some (.slice a2 n2 c2) by first | (with_reducible assumption) | go_simp); have p5 := (hx1.cells (w.heap.size) (5) (by first | omega | (simp <;> omega))).trans (show _ = some (.int .i64 e) by first | (with_reducible assumption) | go_simp); have p6 := (hx1.cells (w.heap.size) (6) (by first | omega | (simp <;> omega))).trans (show _ = some (.int .i64 mn) by first | (with_reducible assumption) | go_simp))
                  | (go_at_call 62; (with_reducible refine (HK.out _ extA).mono ?_); rintro e' w2 ⟨rfl, hx2⟩; have hz2 := hx2.size; (try simp at hz2); have hb2_0 : w.heap.size < w2.heap.size := (by omega); have q0 := (hx2.cells (w.heap.size) (0) (by first | omega | (simp <;> omega))).trans (show _ = some (.int .i64 2) by first | (with_reducible assumption) | go_simp); have q1 := (hx2.cells (w.heap.size) (1) (by first | omega | (simp <;> omega))).trans (show _ = some (.slice a1 n1 c1) by first | (with_reducible assumption) | go_simp); have q2 := (hx2.cells (w.heap.size) (2) (by first | omega | (simp <;> omega))).trans (show _ = some (.int .i64 c) by first | (with_reducible assumption) | go_simp); have q3 := (hx2.cells (w.heap.size) (3) (by first | omega | (simp <;> omega))).trans (show _ = some (.string s) by first | (with_reducible assumption) | go_simp); have q4 := (hx2.cells (w.heap.size) (4) (by first | omega | (simp <;> omega))).trans (show _ = some (.slice a2 n2 c2) by first | (with_reducible assumption) | go_simp); have q5 := (hx2.cells (w.heap.size) (5) (by first | omega | (simp <;> omega))).trans (show _ = some (.int .i64 e) by first | (with_reducible assumption) | go_simp); have q6 := (hx2.cells (w.heap.size) (6) (by first | omega | (simp <;> omega))).trans (show _ = some (.int .i64 mn) by first | (with_reducible assumption) | go_simp))
                  | (go_at_call 61; (with_reducible refine (HN2.out _ extA).mono ?_); rintro e' w4 ⟨rfl, hx4⟩; have hz4 := hx4.size; (try simp at hz4); have hb4_0 : w.heap.size < w4.heap.size := (by omega); have s0 := (hx4.cells (w.heap.size) (0) (by first | omega | (simp <;> omega))).trans (show _ = some (.int .i64 2) by first | (with_reducible assumption) | go_simp); have s1 := (hx4.cells (w.heap.size) (1) (by first | omega | (simp <;> omega))).trans (show _ = some (.slice a1 n1 c1) by first | (with_reducible assumption) | go_simp); have s2 := (hx4.cells (w.heap.size) (2) (by first | omega | (simp <;> omega))).trans (show _ = some (.int .i64 c) by first | (with_reducible assumption) | go_simp); have s3 := (hx4.cells (w.heap.size) (3) (by first | omega | (simp <;> omega))).trans (show _ = some (.string s) by first | (with_reducible assumption) | go_simp); have s4 := (hx4.cells (w.heap.size) (4) (by first | omega | (simp <;> omega))).trans (show _ = some (.slice a2 n2 c2) by first | (with_reducible assumption) | go_simp); have s5 := (hx4.cells (w.heap.size) (5) (by first | omega | (simp <;> omega))).trans (show _ = some (.int .i64 e) by first | (with_reducible assumption) | go_simp); have s6 := (hx4.cells (w.heap.size) (6) (by first | omega | (simp <;> omega))).trans (show _ = some (.int .i64 mn) by first | (with_reducible assumption) | go_simp))
                  | (go_at_call 61; (with_reducible refine (HN1.out _ extA).mono ?_); rintro e' w3 ⟨rfl, hx3⟩; have hz3 := hx3.size; (try simp at hz3); have hb3_0 : w.heap.size < w3.heap.size := (by omega); have r0 := (hx3.cells (w.heap.size) (0) (by first | omega | (simp <;> omega))).trans (show _ = some (.int .i64 2) by first | (with_reducible assumption) | go_simp); have r1 := (hx3.cells (w.heap.size) (1) (by first | omega | (simp <;> omega))).trans (show _ = some (.slice a1 n1 c1) by first | (with_reducible assumption) | go_simp); have r2 := (hx3.cells (w.heap.size) (2) (by first | omega | (simp <;> omega))).trans (show _ = some (.int .i64 c) by first | (with_reducible assumption) | go_simp); have r3 := (hx3.cells (w.heap.size) (3) (by first | omega | (simp <;> omega))).trans (show _ = some (.string s) by first | (with_reducible assumption) | go_simp); have r4 := (hx3.cells (w.heap.size) (4) (by first | omega | (simp <;> omega))).trans (show _ = some (.slice a2 n2 c2) by first | (with_reducible assumption) | go_simp); have r5 := (hx3.cells (w.heap.size) (5) (by first | omega | (simp <;> omega))).trans (show _ = some (.int .i64 e) by first | (with_reducible assumption) | go_simp); have r6 := (hx3.cells (w.heap.size) (6) (by first | omega | (simp <;> omega))).trans (show _ = some (.int .i64 mn) by first | (with_reducible assumption) | go_simp))
                  | (go_at_call 63; (with_reducible refine (HX.out _ extA).mono ?_); rintro e' w5 ⟨cs5, rfl, hm5, hx5⟩; obtain ⟨v5, rfl, hv5, _⟩ := hm5; obtain ⟨a5, n5, c5, rfl⟩ := hv5.slice; clear hv5))
                go_ret
                exact ⟨rfl, extA⟩
            · rw [checkD_take_next k1 rfl H0.out g (bytes_nil h1) h2]
              have t3 : inB mn 1 60 = true := by unfold inB; simp; omega
              have t2 : decide (mn < 1) = false := decide_eq_false (by omega)
              have t4 : decide (60 < mn) = false := decide_eq_false (by omega)
              have b1 : 1 ≤ mn := by omega
              have b2 : mn ≤ 60 := by omega
              clear k1 h1 h2
              simp only
              generalize nextM (m, e) (mn - 1) = nx at *
              obtain ⟨⟨np, nc⟩, er⟩ := nx
              simp only at HX ⊢
              go_enter Try.func43, Try.ntmps43
              go_wp2_with (first
                | (go_at_call 60; (with_reducible refine (HR.out _ extA).mono ?_); rintro e' w1 ⟨rfl, hx1⟩; have hz1 := hx1.size; (try simp at hz1); have hb1_0 : w.heap.size < w1.heap.size := (by omega); have p0 := (hx1.cells (w.heap.size) (0) (by first | omega | (simp <;> omega))).trans (show _ = some (.int .i64 2) by first | (with_reducible assumption) | go_simp); have p1 := (hx1.cells (w.heap.size) (1) (by first | omega | (simp <;> omega))).trans (show _ = some (.slice a1 n1 c1) by first | (with_reducible assumption) | go_simp); have p2 := (hx1.cells (w.heap.size) (2) (by first | omega | (simp <;> omega))).trans (show _ = some (.int .i64 c) by first | (with_reducible assumption) | go_simp); have p3 := (hx1.cells (w.heap.size) (3) (by first | omega | (simp <;> omega))).trans (show _ = some (.string s) by first | (with_reducible assumption) | go_simp); have p4 := (hx1.cells (w.heap.size) (4) (by first | omega | (simp <;> omega))).trans (show _ = some (.slice a2 n2 c2) by first | (with_reducible assumption) | go_simp); have p5 := (hx1.cells (w.heap.size) (5) (by first | omega | (simp <;> omega))).trans (show _ = some (.int .i64 e) by first | (with_reducible assumption) | go_simp); have p6 := (hx1.cells (w.heap.size) (6) (by first | omega | (simp <;> omega))).trans (show _ = some (.int .i64 mn) by first | (with_reducible assumption) | go_simp))
                | (go_at_call 62; (with_reducible refine (HK.out _ extA).mono ?_); rintro e' w2 ⟨rfl, hx2⟩; have hz2 := hx2.size; (try simp at hz2); have hb2_0 : w.heap.size < w2.heap.size := (by omega); have q0 := (hx2.cells (w.heap.size) (0) (by first | omega | (simp <;> omega))).trans (show _ = some (.int .i64 2) by first | (with_reducible assumption) | go_simp); have q1 := (hx2.cells (w.heap.size) (1) (by first | omega | (simp <;> omega))).trans (show _ = some (.slice a1 n1 c1) by first | (with_reducible assumption) | go_simp); have q2 := (hx2.cells (w.heap.size) (2) (by first | omega | (simp <;> omega))).trans (show _ = some (.int .i64 c) by first | (with_reducible assumption) | go_simp); have q3 := (hx2.cells (w.heap.size) (3) (by first | omega | (simp <;> omega))).trans (show _ = some (.string s) by first | (with_reducible assumption) | go_simp); have q4 := (hx2.cells (w.heap.size) (4) (by first | omega | (simp <;> omega))).trans (show _ = some (.slice a2 n2 c2) by first | (with_reducible assumption) | go_simp); have q5 := (hx2.cells (w.heap.size) (5) (by first | omega | (simp <;> omega))).trans (show _ = some (.int .i64 e) by first | (with_reducible assumption) | go_simp); have q6 := (hx2.cells (w.heap.size) (6) (by first | omega | (simp <;> omega))).trans (show _ = some (.int .i64 mn) by first | (with_reducible assumption) | go_simp))
                | (go_at_call 61; (with_reducible refine (HN2.out _ extA).mono ?_); rintro e' w4 ⟨rfl, hx4⟩; have hz4 := hx4.size; (try simp at hz4); have hb4_0 : w.heap.size < w4.heap.size := (by omega); have s0 := (hx4.cells (w.heap.size) (0) (by first | omega | (simp <;> omega))).trans (show _ = some (.int .i64 2) by first | (with_reducible assumption) | go_simp); have s1 := (hx4.cells (w.heap.size) (1) (by first | omega | (simp <;> omega))).trans (show _ = some (.slice a1 n1 c1) by first | (with_reducible assumption) | go_simp); have s2 := (hx4.cells (w.heap.size) (2) (by first | omega | (simp <;> omega))).trans (show _ = some (.int .i64 c) by first | (with_reducible assumption) | go_simp); have s3 := (hx4.cells (w.heap.size) (3) (by first | omega | (simp <;> omega))).trans (show _ = some (.string s) by first | (with_reducible assumption) | go_simp); have s4 := (hx4.cells (w.heap.size) (4) (by first | omega | (simp <;> omega))).trans (show _ = some (.slice a2 n2 c2) by first | (with_reducible assumption) | go_simp); have s5 := (hx4.cells (w.heap.size) (5) (by first | omega | (simp <;> omega))).trans (show _ = some (.int .i64 e) by first | (with_reducible assumption) | go_simp); have s6 := (hx4.cells (w.heap.size) (6) (by first | omega | (simp <;> omega))).trans (show _ = some (.int .i64 mn) by first | (with_reducible assumption) | go_simp))
                | (go_at_call 61; (with_reducible refine (HN1.out _ extA).mono ?_); rintro e' w3 ⟨rfl, hx3⟩; have hz3 := hx3.size; (try simp at hz3); have hb3_0 : w.heap.size < w3.heap.size := (by omega); have r0 := (hx3.cells (w.heap.size) (0) (by first | omega | (simp <;> omega))).trans (show _ = some (.int .i64 2) by first | (with_reducible assumption) | go_simp); have r1 := (hx3.cells (w.heap.size) (1) (by first | omega | (simp <;> omega))).trans (show _ = some (.slice a1 n1 c1) by first | (with_reducible assumption) | go_simp); have r2 := (hx3.cells (w.heap.size) (2) (by first | omega | (simp <;> omega))).trans (show _ = some (.int .i64 c) by first | (with_reducible assumption) | go_simp); have r3 := (hx3.cells (w.heap.size) (3) (by first | omega | (simp <;> omega))).trans (show _ = some (.string s) by first | (with_reducible assumption) | go_simp); have r4 := (hx3.cells (w.heap.size) (4) (by first | omega | (simp <;> omega))).trans (show _ = some (.slice a2 n2 c2) by first | (with_reducible assumption) | go_simp); have r5 := (hx3.cells (w.heap.size) (5) (by first | omega | (simp <;> omega))).trans (show _ = some (.int .i64 e) by first | (with_reducible assumption) | go_simp); have r6 := (hx3.cells (w.heap.size) (6) (by first | omega | (simp <;> omega))).trans (show _ = some (.int .i64 mn) by first | (with_reducible assumption) | go_simp))
                | (go_at_call 63; (with_reducible refine (HX.out _ extA).mono ?_); rintro e' w5 ⟨cs5, rfl, hm5, hx5⟩; obtain ⟨v5, rfl, hv5, _⟩ := hm5; obtain ⟨a5, n5, c5, rfl⟩ := hv5.slice; clear hv5))
              go_ret
              exact ⟨rfl, extA⟩
          · rw [checkD_take_form k1 rfl H0.out (.inr (bytes_cons h1))]
            have t1 : s.toList.isEmpty = false := empty_no h1
            clear k1 h1
            go_enter Try.func43, Try.ntmps43
            go_wp2_with (first
              | (go_at_call 60; (with_reducible refine (HR.out _ extA).mono ?_); rintro e' w1 ⟨rfl, hx1⟩; have hz1 := hx1.size; (try simp at hz1); have hb1_0 : w.heap.size < w1.heap.size := (by omega); have p0 := (hx1.cells (w.heap.size) (0) (by first | omega | (simp <;> omega))).trans (show _ = some (.int .i64 2) by first | (with_reducible assumption) | go_simp); have p1 := (hx1.cells (w.heap.size) (1) (by first | omega | (simp <;> omega))).trans (show _ = some (.slice a1 n1 c1) by first | (with_reducible assumption) | go_simp); have p2 := (hx1.cells (w.heap.size) (2) (by first | omega | (simp <;> omega))).trans (show _ = some (.int .i64 c) by first | (with_reducible assumption) | go_simp); have p3 := (hx1.cells (w.heap.size) (3) (by first | omega | (simp <;> omega))).trans (show _ = some (.string s) by first | (with_reducible assumption) | go_simp); have p4 := (hx1.cells (w.heap.size) (4) (by first | omega | (simp <;> omega))).trans (show _ = some (.slice a2 n2 c2) by first | (with_reducible assumption) | go_simp); have p5 := (hx1.cells (w.heap.size) (5) (by first | omega | (simp <;> omega))).trans (show _ = some (.int .i64 e) by first | (with_reducible assumption) | go_simp); have p6 := (hx1.cells (w.heap.size) (6) (by first | omega | (simp <;> omega))).trans (show _ = some (.int .i64 mn) by first | (with_reducible assumption) | go_simp))
              | (go_at_call 62; (with_reducible refine (HK.out _ extA).mono ?_); rintro e' w2 ⟨rfl, hx2⟩; have hz2 := hx2.size; (try simp at hz2); have hb2_0 : w.heap.size < w2.heap.size := (by omega); have q0 := (hx2.cells (w.heap.size) (0) (by first | omega | (simp <;> omega))).trans (show _ = some (.int .i64 2) by first | (with_reducible assumption) | go_simp); have q1 := (hx2.cells (w.heap.size) (1) (by first | omega | (simp <;> omega))).trans (show _ = some (.slice a1 n1 c1) by first | (with_reducible assumption) | go_simp); have q2 := (hx2.cells (w.heap.size) (2) (by first | omega | (simp <;> omega))).trans (show _ = some (.int .i64 c) by first | (with_reducible assumption) | go_simp); have q3 := (hx2.cells (w.heap.size) (3) (by first | omega | (simp <;> omega))).trans (show _ = some (.string s) by first | (with_reducible assumption) | go_simp); have q4 := (hx2.cells (w.heap.size) (4) (by first | omega | (simp <;> omega))).trans (show _ = some (.slice a2 n2 c2) by first | (with_reducible assumption) | go_simp); have q5 := (hx2.cells (w.heap.size) (5) (by first | omega | (simp <;> omega))).trans (show _ = some (.int .i64 e) by first | (with_reducible assumption) | go_simp); have q6 := (hx2.cells (w.heap.size) (6) (by first | omega | (simp <;> omega))).trans (show _ = some (.int .i64 mn) by first | (with_reducible assumption) | go_simp))
              | (go_at_call 61; (with_reducible refine (HN2.out _ extA).mono ?_); rintro e' w4 ⟨rfl, hx4⟩; have hz4 := hx4.size; (try simp at hz4); have hb4_0 : w.heap.size < w4.heap.size := (by omega); have s0 := (hx4.cells (w.heap.size) (0) (by first | omega | (simp <;> omega))).trans (show _ = some (.int .i64 2) by first | (with_reducible assumption) | go_simp); have s1 := (hx4.cells (w.heap.size) (1) (by first | omega | (simp <;> omega))).trans (show _ = some (.slice a1 n1 c1) by first | (with_reducible assumption) | go_simp); have s2 := (hx4.cells (w.heap.size) (2) (by first | omega | (simp <;> omega))).trans (show _ = some (.int .i64 c) by first | (with_reducible assumption) | go_simp); have s3 := (hx4.cells (w.heap.size) (3) (by first | omega | (simp <;> omega))).trans (show _ = some (.string s) by first | (with_reducible assumption) | go_simp); have s4 := (hx4.cells (w.heap.size) (4) (by first | omega | (simp <;> omega))).trans (show _ = some (.slice a2 n2 c2) by first | (with_reducible assumption) | go_simp); have s5 := (hx4.cells (w.heap.size) (5) (by first | omega | (simp <;> omega))).trans (show _ = some (.int .i64 e) by first | (with_reducible assumption) | go_simp); have s6 := (hx4.cells (w.heap.size) (6) (by first | omega | (simp <;> omega))).trans (show _ = some (.int .i64 mn) by first | (with_reducible assumption) | go_simp))
              | (go_at_call 61; (with_reducible refine (HN1.out _ extA).mono ?_); rintro e' w3 ⟨rfl, hx3⟩; have hz3 := hx3.size; (try simp at hz3); have hb3_0 : w.heap.size < w3.heap.size := (by omega); have r0 := (hx3.cells (w.heap.size) (0) (by first | omega | (simp <;> omega))).trans (show _ = some (.int .i64 2) by first | (with_reducible assumption) | go_simp); have r1 := (hx3.cells (w.heap.size) (1) (by first | omega | (simp <;> omega))).trans (show _ = some (.slice a1 n1 c1) by first | (with_reducible assumption) | go_simp); have r2 := (hx3.cells (w.heap.size) (2) (by first | omega | (simp <;> omega))).trans (show _ = some (.int .i64 c) by first | (with_reducible assumption) | go_simp); have r3 := (hx3.cells (w.heap.size) (3) (by first | omega | (simp <;> omega))).trans (show _ = some (.string s) by first | (with_reducible assumption) | go_simp); have r4 := (hx3.cells (w.heap.size) (4) (by first | omega | (simp <;> omega))).trans (show _ = some (.slice a2 n2 c2) by first | (with_reducible assumption) | go_simp); have r5 := (hx3.cells (w.heap.size) (5) (by first | omega | (simp <;> omega))).trans (show _ = some (.int .i64 e) by first | (with_reducible assumption) | go_simp); have r6 := (hx3.cells (w.heap.size) (6) (by first | omega | (simp <;> omega))).trans (show _ = some (.int .i64 mn) by first | (with_reducible assumption) | go_simp))
              | (go_at_call 63; (with_reducible refine (HX.out _ extA).mono ?_); rintro e' w5 ⟨cs5, rfl, hm5, hx5⟩; obtain ⟨v5, rfl, hv5, _⟩ := hm5; obtain ⟨a5, n5, c5, rfl⟩ := hv5.slice; clear hv5))
            go_ret
            exact ⟨rfl, extA⟩
      · rw [checkD_take_bad k1 rfl h0]
        simp only
        have t1 : (checkM (m, e) != 0) = true := by simpa using h0
        generalize checkM (m, e) = r at *
        clear h0 k1
        go_enter Try.func43, Try.ntmps43
        go_wp2_with (first
          | (go_at_call 60; (with_reducible refine (HR.out _ extA).mono ?_); rintro e' w1 ⟨rfl, hx1⟩; have hz1 := hx1.size; (try simp at hz1); have hb1_0 : w.heap.size < w1.heap.size := (by omega); have p0 := (hx1.cells (w.heap.size) (0) (by first | omega | (simp <;> omega))).trans (show _ = some (.int .i64 2) by first | (with_reducible assumption) | go_simp); have p1 := (hx1.cells (w.heap.size) (1) (by first | omega | (simp <;> omega))).trans (show _ = some (.slice a1 n1 c1) by first | (with_reducible assumption) | go_simp); have p2 := (hx1.cells (w.heap.size) (2) (by first | omega | (simp <;> omega))).trans (show _ = some (.int .i64 c) by first | (with_reducible assumption) | go_simp); have p3 := (hx1.cells (w.heap.size) (3) (by first | omega | (simp <;> omega))).trans (show _ = some (.string s) by first | (with_reducible assumption) | go_simp); have p4 := (hx1.cells (w.heap.size) (4) (by first | omega | (simp <;> omega))).trans (show _ = some (.slice a2 n2 c2) by first | (with_reducible assumption) | go_simp); have p5 := (hx1.cells (w.heap.size) (5) (by first | omega | (simp <;> omega))).trans (show _ = some (.int .i64 e) by first | (with_reducible assumption) | go_simp); have p6 := (hx1.cells (w.heap.size) (6) (by first | omega | (simp <;> omega))).trans (show _ = some (.int .i64 mn) by first | (with_reducible assumption) | go_simp))
          | (go_at_call 62; (with_reducible refine (HK.out _ extA).mono ?_); rintro e' w2 ⟨rfl, hx2⟩; have hz2 := hx2.size; (try simp at hz2); have hb2_0 : w.heap.size < w2.heap.size := (by omega); have q0 := (hx2.cells (w.heap.size) (0) (by first | omega | (simp <;> omega))).trans (show _ = some (.int .i64 2) by first | (with_reducible assumption) | go_simp); have q1 := (hx2.cells (w.heap.size) (1) (by first | omega | (simp <;> omega))).trans (show _ = some (.slice a1 n1 c1) by first | (with_reducible assumption) | go_simp); have q2 := (hx2.cells (w.heap.size) (2) (by first | omega | (simp <;> omega))).trans (show _ = some (.int .i64 c) by first | (with_reducible assumption) | go_simp); have q3 := (hx2.cells (w.heap.size) (3) (by first | omega | (simp <;> omega))).trans (show _ = some (.string s) by first | (with_reducible assumption) | go_simp); have q4 := (hx2.cells (w.heap.size) (4) (by first | omega | (simp <;> omega))).trans (show _ = some (.slice a2 n2 c2) by first | (with_reducible assumption) | go_simp); have q5 := (hx2.cells (w.heap.size) (5) (by first | omega | (simp <;> omega))).trans (show _ = some (.int .i64 e) by first | (with_reducible assumption) | go_simp); have q6 := (hx2.cells (w.heap.size) (6) (by first | omega | (simp <;> omega))).trans (show _ = some (.int .i64 mn) by first | (with_reducible assumption) | go_simp))
          | (go_at_call 61; (with_reducible refine (HN2.out _ extA).mono ?_); rintro e' w4 ⟨rfl, hx4⟩; have hz4 := hx4.size; (try simp at hz4); have hb4_0 : w.heap.size < w4.heap.size := (by omega); have s0 := (hx4.cells (w.heap.size) (0) (by first | omega | (simp <;> omega))).trans (show _ = some (.int .i64 2) by first | (with_reducible assumption) | go_simp); have s1 := (hx4.cells (w.heap.size) (1) (by first | omega | (simp <;> omega))).trans (show _ = some (.slice a1 n1 c1) by first | (with_reducible assumption) | go_simp); have s2 := (hx4.cells (w.heap.size) (2) (by first | omega | (simp <;> omega))).trans (show _ = some (.int .i64 c) by first | (with_reducible assumption) | go_simp); have s3 := (hx4.cells (w.heap.size) (3) (by first | omega | (simp <;> omega))).trans (show _ = some (.string s) by first | (with_reducible assumption) | go_simp); have s4 := (hx4.cells (w.heap.size) (4) (by first | omega | (simp <;> omega))).trans (show _ = some (.slice a2 n2 c2) by first | (with_reducible assumption) | go_simp); have s5 := (hx4.cells (w.heap.size) (5) (by first | omega | (simp <;> omega))).trans (show _ = some (.int .i64 e) by first | (with_reducible assumption) | go_simp); have s6 := (hx4.cells (w.heap.size) (6) (by first | omega | (simp <;> omega))).trans (show _ = some (.int .i64 mn) by first | (with_reducible assumption) | go_simp))
          | (go_at_call 61; (with_reducible refine (HN1.out _ extA).mono ?_); rintro e' w3 ⟨rfl, hx3⟩; have hz3 := hx3.size; (try simp at hz3); have hb3_0 : w.heap.size < w3.heap.size := (by omega); have r0 := (hx3.cells (w.heap.size) (0) (by first | omega | (simp <;> omega))).trans (show _ = some (.int .i64 2) by first | (with_reducible assumption) | go_simp); have r1 := (hx3.cells (w.heap.size) (1) (by first | omega | (simp <;> omega))).trans (show _ = some (.slice a1 n1 c1) by first | (with_reducible assumption) | go_simp); have r2 := (hx3.cells (w.heap.size) (2) (by first | omega | (simp <;> omega))).trans (show _ = some (.int .i64 c) by first | (with_reducible assumption) | go_simp); have r3 := (hx3.cells (w.heap.size) (3) (by first | omega | (simp <;> omega))).trans (show _ = some (.string s) by first | (with_reducible assumption) | go_simp); have r4 := (hx3.cells (w.heap.size) (4) (by first | omega | (simp <;> omega))).trans (show _ = some (.slice a2 n2 c2) by first | (with_reducible assumption) | go_simp); have r5 := (hx3.cells (w.heap.size) (5) (by first | omega | (simp <;> omega))).trans (show _ = some (.int .i64 e) by first | (with_reducible assumption) | go_simp); have r6 := (hx3.cells (w.heap.size) (6) (by first | omega | (simp <;> omega))).trans (show _ = some (.int .i64 mn) by first | (with_reducible assumption) | go_simp))
          | (go_at_call 63; (with_reducible refine (HX.out _ extA).mono ?_); rintro e' w5 ⟨cs5, rfl, hm5, hx5⟩; obtain ⟨v5, rfl, hv5, _⟩ := hm5; obtain ⟨a5, n5, c5, rfl⟩ := hv5.slice; clear hv5))
        go_ret
        exact ⟨rfl, extA⟩
    · rw [checkD_kind k1 k2]
      have t1 : (kd == 2) = false := by simpa using k2
      have t2 : (kd != 2) = true := by simpa using k2
      clear k1 k2
      go_enter Try.func43, Try.ntmps43
      go_wp2_with (first
        | (go_at_call 60; (with_reducible refine (HR.out _ extA).mono ?_); rintro e' w1 ⟨rfl, hx1⟩; have hz1 := hx1.size; (try simp at hz1); have hb1_0 : w.heap.size < w1.heap.size := (by omega); have p0 := (hx1.cells (w.heap.size) (0) (by first | omega | (simp <;> omega))).trans (show _ = some (.int .i64 kd) by first | (with_reducible assumption) | go_simp); have p1 := (hx1.cells (w.heap.size) (1) (by first | omega | (simp <;> omega))).trans (show _ = some (.slice a1 n1 c1) by first | (with_reducible assumption) | go_simp); have p2 := (hx1.cells (w.heap.size) (2) (by first | omega | (simp <;> omega))).trans (show _ = some (.int .i64 c) by first | (with_reducible assumption) | go_simp); have p3 := (hx1.cells (w.heap.size) (3) (by first | omega | (simp <;> omega))).trans (show _ = some (.string s) by first | (with_reducible assumption) | go_simp); have p4 := (hx1.cells (w.heap.size) (4) (by first | omega | (simp <;> omega))).trans (show _ = some (.slice a2 n2 c2) by first | (with_reducible assumption) | go_simp); have p5 := (hx1.cells (w.heap.size) (5) (by first | omega | (simp <;> omega))).trans (show _ = some (.int .i64 e) by first | (with_reducible assumption) | go_simp); have p6 := (hx1.cells (w.heap.size) (6) (by first | omega | (simp <;> omega))).trans (show _ = some (.int .i64 mn) by first | (with_reducible assumption) | go_simp))
        | (go_at_call 62; (with_reducible refine (HK.out _ extA).mono ?_); rintro e' w2 ⟨rfl, hx2⟩; have hz2 := hx2.size; (try simp at hz2); have hb2_0 : w.heap.size < w2.heap.size := (by omega); have q0 := (hx2.cells (w.heap.size) (0) (by first | omega | (simp <;> omega))).trans (show _ = some (.int .i64 kd) by first | (with_reducible assumption) | go_simp); have q1 := (hx2.cells (w.heap.size) (1) (by first | omega | (simp <;> omega))).trans (show _ = some (.slice a1 n1 c1) by first | (with_reducible assumption) | go_simp); have q2 := (hx2.cells (w.heap.size) (2) (by first | omega | (simp <;> omega))).trans (show _ = some (.int .i64 c) by first | (with_reducible assumption) | go_simp); have q3 := (hx2.cells (w.heap.size) (3) (by first | omega | (simp <;> omega))).trans (show _ = some (.string s) by first | (with_reducible assumption) | go_simp); have q4 := (hx2.cells (w.heap.size) (4) (by first | omega | (simp <;> omega))).trans (show _ = some (.slice a2 n2 c2) by first | (with_reducible assumption) | go_simp); have q5 := (hx2.cells (w.heap.size) (5) (by first | omega | (simp <;> omega))).trans (show _ = some (.int .i64 e) by first | (with_reducible assumption) | go_simp); have q6 := (hx2.cells (w.heap.size) (6) (by first | omega | (simp <;> omega))).trans (show _ = some (.int .i64 mn) by first | (with_reducible assumption) | go_simp))
        | (go_at_call 61; (with_reducible refine (HN2.out _ extA).mono ?_); rintro e' w4 ⟨rfl, hx4⟩; have hz4 := hx4.size; (try simp at hz4); have hb4_0 : w.heap.size < w4.heap.size := (by omega); have s0 := (hx4.cells (w.heap.size) (0) (by first | omega | (simp <;> omega))).trans (show _ = some (.int .i64 kd) by first | (with_reducible assumption) | go_simp); have s1 := (hx4.cells (w.heap.size) (1) (by first | omega | (simp <;> omega))).trans (show _ = some (.slice a1 n1 c1) by first | (with_reducible assumption) | go_simp); have s2 := (hx4.cells (w.heap.size) (2) (by first | omega | (simp <;> omega))).trans (show _ = some (.int .i64 c) by first | (with_reducible assumption) | go_simp); have s3 := (hx4.cells (w.heap.size) (3) (by first | omega | (simp <;> omega))).trans (show _ = some (.string s) by first | (with_reducible assumption) | go_simp); have s4 := (hx4.cells (w.heap.size) (4) (by first | omega | (simp <;> omega))).trans (show _ = some (.slice a2 n2 c2) by first | (with_reducible assumption) | go_simp); have s5 := (hx4.cells (w.heap.size) (5) (by first | omega | (simp <;> omega))).trans (show _ = some (.int .i64 e) by first | (with_reducible assumption) | go_simp); have s6 := (hx4.cells (w.heap.size) (6) (by first | omega | (simp <;> omega))).trans (show _ = some (.int .i64 mn) by first | (with_reducible assumption) | go_simp))
        | (go_at_call 61; (with_reducible refine (HN1.out _ extA).mono ?_); rintro e' w3 ⟨rfl, hx3⟩; have hz3 := hx3.size; (try simp at hz3); have hb3_0 : w.heap.size < w3.heap.size := (by omega); have r0 := (hx3.cells (w.heap.size) (0) (by first | omega | (simp <;> omega))).trans (show _ = some (.int .i64 kd) by first | (with_reducible assumption) | go_simp); have r1 := (hx3.cells (w.heap.size) (1) (by first | omega | (simp <;> omega))).trans (show _ = some (.slice a1 n1 c1) by first | (with_reducible assumption) | go_simp); have r2 := (hx3.cells (w.heap.size) (2) (by first | omega | (simp <;> omega))).trans (show _ = some (.int .i64 c) by first | (with_reducible assumption) | go_simp); have r3 := (hx3.cells (w.heap.size) (3) (by first | omega | (simp <;> omega))).trans (show _ = some (.string s) by first | (with_reducible assumption) | go_simp); have r4 := (hx3.cells (w.heap.size) (4) (by first | omega | (simp <;> omega))).trans (show _ = some (.slice a2 n2 c2) by first | (with_reducible assumption) | go_simp); have r5 := (hx3.cells (w.heap.size) (5) (by first | omega | (simp <;> omega))).trans (show _ = some (.int .i64 e) by first | (with_reducible assumption) | go_simp); have r6 := (hx3.cells (w.heap.size) (6) (by first | omega | (simp <;> omega))).trans (show _ = some (.int .i64 mn) by first | (with_reducible assumption) | go_simp))
        | (go_at_call 63; (with_reducible refine (HX.out _ extA).mono ?_); rintro e' w5 ⟨cs5, rfl, hm5, hx5⟩; obtain ⟨v5, rfl, hv5, _⟩ := hm5; obtain ⟨a5, n5, c5, rfl⟩ := hv5.slice; clear hv5))
      go_ret
      exact ⟨rfl, extA⟩
end Go.Proofs.Ytiladkinndgeaaa
/- What is wrong with a list of deeds; a deed where it lies. -/
namespace Go.Proofs.Ytiladkinndgeaaa
open Go Go.RowKit Go.BigFrame Cp

def checkDL : List De → Int
  | [] => 0
  | d :: r => if checkD d ≠ 0 then checkD d else checkDL r
theorem checkDL_bad {l : List De} {k : Nat} {d : De} (h : l[k]? = some d) (h1 : ¬ checkD d = 0) : checkDL (l.drop k) = checkD d := by rw [drop_at h]; unfold checkDL; rw [if_pos h1]
theorem checkDL_next {l : List De} {k : Nat} {d : De} (h : l[k]? = some d) (h1 : checkD d = 0) : checkDL (l.drop k) = checkDL (l.drop (k + 1)) := by
  rw [drop_at h]
  conv => lhs; unfold checkDL
  rw [if_neg (by simpa using h1)]
theorem checkDL_end {l : List De} {k : Nat} (h : l.length ≤ k) : checkDL (l.drop k) = 0 := by rw [List.drop_eq_nil_of_le h]; rfl
theorem deed_at {F : Nat → Prop} {w : World} {a : Option Addr} {n cap : Nat} {q : List De} (h : RSl RDe 7 F w (.slice a n cap) q) {i : Nat} (hi : i < n) :
    ∃ b o d a1 n1 c1 a2 n2 c2 s, a = some ⟨b, o, none⟩ ∧ b < w.heap.size ∧ q[i]? = some d ∧
      RDe F w [.int .i64 d.kind, .slice a1 n1 c1, .int .i64 d.run.1.2, .string s, .slice a2 n2 c2, .int .i64 d.mark.2, .int .i64 d.many] d ∧
      w.cell? ⟨b, o + i * 7, none⟩ = some (.int .i64 d.kind) ∧ w.cell? ⟨b, o + i * 7 + 1, none⟩ = some (.slice a1 n1 c1) ∧ w.cell? ⟨b, o + i * 7 + 2, none⟩ = some (.int .i64 d.run.1.2) ∧
      w.cell? ⟨b, o + i * 7 + 3, none⟩ = some (.string s) ∧ w.cell? ⟨b, o + i * 7 + 4, none⟩ = some (.slice a2 n2 c2) ∧ w.cell? ⟨b, o + i * 7 + 5, none⟩ = some (.int .i64 d.mark.2) ∧ w.cell? ⟨b, o + i * 7 + 6, none⟩ = some (.int .i64 d.many) := by
  obtain ⟨b, o, d, cs, e1, e2, e3, _, e4, hd⟩ := h.at_ hi
  have hd' := hd
  obtain ⟨v, x, u, rfl, h1, h2, h3, h4, h5, h6, h7⟩ := hd
  obtain ⟨a1, n1, c1, rfl⟩ := h2.slice
  obtain ⟨a2, n2, c2, rfl⟩ := h5.slice
  obtain ⟨s, rfl, _⟩ := tx_bytes h4
  exact ⟨b, o, d, a1, n1, c1, a2, n2, c2, s, e1, e2, e3, hd', by simpa using e4 0 _ rfl, by simpa [Nat.add_assoc] using e4 1 _ rfl, by simpa [Nat.add_assoc] using e4 2 _ rfl, by simpa [Nat.add_assoc] using e4 3 _ rfl, by simpa [Nat.add_assoc] using e4 4 _ rfl, by simpa [Nat.add_assoc] using e4 5 _ rfl, by simpa [Nat.add_assoc] using e4 6 _ rfl⟩
end Go.Proofs.Ytiladkinndgeaaa
/- Plain facts on deeds that are done, one by one: what is right stays right; what an errno tells. -/
namespace Go.Proofs.Ytiladkinndgeaaa
open Go Go.RowKit Cp

/-- a state that is right, but for how much it is -/
def RightS (s : St) : Prop := RightA s.1 ∧ SortedG s.2 ∧ (∀ m ∈ s.2, checkM m = 0) ∧ ∀ m ∈ s.2, hasM s.1 m = false
/-- a state that is right -/
def FitS (s : St) : Prop := RightS s ∧ s.1.length ≤ 300 ∧ s.2.length ≤ 600
theorem hasM_iff {l : List At} {m : Mk} : hasM l m = true ↔ ∃ a ∈ l, a.1 = m := by
  unfold hasM
  rw [List.any_eq_true]
  constructor
  · rintro ⟨a, ha, h⟩
    exact ⟨a, ha, ordM_zero.1 (by simpa using h)⟩
  · rintro ⟨a, ha, h⟩
    exact ⟨a, ha, by simpa using ordM_zero.2 h⟩
theorem hasG_iff {l : List Mk} {m : Mk} : hasG l m = true ↔ m ∈ l := by
  unfold hasG
  rw [List.any_eq_true]
  constructor
  · rintro ⟨a, ha, h⟩
    have : a = m := ordM_zero.1 (by simpa using h)
    exact this ▸ ha
  · intro h
    exact ⟨m, h, by simpa using ordM_zero.2 rfl⟩
theorem hasM_false {l : List At} {m : Mk} : hasM l m = false ↔ ∀ a ∈ l, a.1 ≠ m := by
  rw [← Bool.not_eq_true, hasM_iff]
  exact ⟨fun h a ha e => h ⟨a, ha, e⟩, fun h ⟨a, ha, e⟩ => h a ha e⟩
theorem checkGF_right : ∀ {l : List Mk} {ats : List At} {p : Option Mk}, checkGF ats p l = 0 ↔ (SortedG (match p with | none => l | some q => q :: l) ∨ (l = [] ∧ True)) ∧ (∀ m ∈ l, checkM m = 0) ∧ ∀ m ∈ l, hasM ats m = false
  | [], ats, p => by simp [checkGF]
  | m :: l, ats, p => by
    unfold checkGF
    by_cases h1 : checkM m = 0
    · rw [if_neg (by simpa using h1)]
      have ih := @checkGF_right l ats (some m)
      simp only at ih
      cases p with
      | none =>
        cases hm : hasM ats m with
        | true => simp [hm]
        | false =>
          simp only [hm, Bool.false_eq_true, or_false, false_or, if_false, reduceCtorEq, and_true]
          rw [ih]
          simp only [List.mem_cons, forall_eq_or_imp, h1, hm, true_and, and_true, reduceCtorEq, false_and, or_false]
          constructor
          · rintro ⟨h, h2, h3⟩
            rcases h with h | rfl
            · exact ⟨h, h2, h3⟩
            · exact ⟨trivial, h2, h3⟩
          · rintro ⟨h, h2, h3⟩; exact ⟨.inl h, h2, h3⟩
      | some q =>
        cases hm : hasM ats m with
        | true => simp [hm]
        | false =>
          by_cases h2 : ordM q m = -1
          · have h3 : ¬ 0 ≤ ordM q m := by omega
            simp only [hm, h3, Bool.false_eq_true, or_false, false_or, if_false, decide_false]
            rw [ih]
            simp only [List.mem_cons, forall_eq_or_imp, h1, hm, true_and, and_true, reduceCtorEq, false_and, or_false]
            constructor
            · rintro ⟨h, h4, h5⟩
              rcases h with h | rfl
              · exact ⟨⟨h2, h⟩, h4, h5⟩
              · exact ⟨⟨h2, trivial⟩, h4, h5⟩
            · rintro ⟨h, h4, h5⟩; exact ⟨.inl h.2, h4, h5⟩
          · have h3 : 0 ≤ ordM q m := by rcases ordM_range q m with h | h | h <;> omega
            simp only [h3, true_or, if_true]
            constructor
            · intro h; cases h
            · rintro ⟨h, _⟩
              rcases h with h | h
              · exact absurd h.1 h2
              · cases h.1
    · rw [if_pos h1]
      constructor
      · intro h; exact absurd h h1
      · rintro ⟨_, h, _⟩; exact absurd (h m (by simp)) h1
theorem checkS_fit {s : St} : checkS s = 0 ↔ FitS s := by
  unfold checkS FitS RightS
  by_cases h1 : checkA s.1 = 0
  · rw [if_neg (by simpa using h1)]
    have hl : s.1.length ≤ 300 := (checkA_ok h1).1
    by_cases h2 : 600 < s.2.length
    · rw [if_pos h2]
      constructor
      · intro h; cases h
      · rintro ⟨_, _, h⟩; omega
    · rw [if_neg h2, checkGF_right]
      simp only
      constructor
      · rintro ⟨h, h3, h4⟩
        refine ⟨⟨right_of h1, ?_, h3, h4⟩, hl, by omega⟩
        rcases h with h | ⟨h, _⟩
        · exact h
        · rw [h]; trivial
      · rintro ⟨⟨_, h, h3, h4⟩, _⟩; exact ⟨.inl h, h3, h4⟩
  · rw [if_pos h1]
    constructor
    · intro h; exact absurd h h1
    · rintro ⟨⟨h, _⟩, h2, _⟩
      rw [right_to h, if_neg (by omega)] at h1
      exact absurd rfl h1
theorem checkDL_ok : ∀ {l : List De}, checkDL l = 0 ↔ ∀ d ∈ l, checkD d = 0
  | [] => by simp [checkDL]
  | d :: l => by
    unfold checkDL
    by_cases h : checkD d = 0
    · rw [if_neg (by simpa using h), checkDL_ok]; simp [h]
    · rw [if_pos h]; simp [h]
theorem hasM_putA (l : List At) (a : At) (m : Mk) : hasM (putA l a) m = true → hasM l m = true ∨ a.1 = m := by
  rw [hasM_iff]
  rintro ⟨x, hx, rfl⟩
  rcases (putA_mem hx).1 with h | ⟨y, hy, h⟩
  · exact .inr h.symm
  · exact .inl (hasM_iff.2 ⟨y, hy, h⟩)
theorem hasM_putNs {g : List Mk} {m : Mk} : ∀ (r l : List At), hasM (putNs g l r) m = true → hasM l m = true ∨ (∃ a ∈ r, a.1 = m ∧ hasG g m = false)
  | [], l, h => .inl h
  | a :: r, l, h => by
    have e : putNs g l (a :: r) = putNs g (putN g l a) r := rfl
    rw [e] at h
    rcases hasM_putNs r _ h with h | ⟨x, hx, h1, h2⟩
    · unfold putN at h
      cases hg : hasG g a.1 with
      | true => rw [hg, if_pos rfl] at h; exact .inl h
      | false =>
        rw [hg, if_neg (by simp)] at h
        rcases hasM_putA l a m h with h | rfl
        · exact .inl h
        · exact .inr ⟨a, by simp, rfl, hg⟩
    · exact .inr ⟨x, by simp [hx], h1, h2⟩
theorem hasM_takeA {l : List At} {ms : List Mk} {m : Mk} : hasM (takeA l ms) m = true ↔ hasM l m = true ∧ hasG ms m = false := by
  rw [hasM_iff, hasM_iff]
  unfold takeA
  constructor
  · rintro ⟨a, ha, rfl⟩
    obtain ⟨h1, h2⟩ := List.mem_filter.1 ha
    exact ⟨⟨a, h1, rfl⟩, by simpa using h2⟩
  · rintro ⟨⟨a, ha, rfl⟩, h⟩
    exact ⟨a, List.mem_filter.2 ⟨ha, by simpa using h⟩, rfl⟩
theorem putGs_has : ∀ (ms l : List Mk) (x : Mk), hasG (putGs l ms) x = (hasG l x || hasG ms x)
  | [], l, x => by simp [putGs, hasG]
  | m :: ms, l, x => by
    have e : putGs l (m :: ms) = putGs (putG l m) ms := rfl
    rw [e, putGs_has ms, putG_hasG, hasG_cons, Bool.or_assoc]
theorem putGs_mem {ms l : List Mk} {x : Mk} (h : x ∈ putGs l ms) : x ∈ l ∨ x ∈ ms := by
  have := putGs_has ms l x
  rw [hasG_iff.2 h] at this
  have h2 := this.symm
  rw [Bool.or_eq_true, hasG_iff, hasG_iff] at h2
  exact h2
theorem deed_take {d : De} (h : checkD d = 0) (h1 : ¬ d.kind = 1) : d.kind = 2 ∧ checkM d.mark = 0 ∧ (∃ n : Nat, d.many = (n : Int) ∧ 1 ≤ n ∧ n ≤ 60) ∧ noneM d.run.1 = true ∧ d.run.2 = [] ∧ (nextM d.mark (d.many - 1)).2 = 0 := by
  by_cases h2 : d.kind = 2
  · by_cases h3 : checkM d.mark = 0
    · by_cases h4 : noneM d.run.1 = false ∨ d.run.2 ≠ []
      · rw [checkD_take_form h1 h2 h3 h4] at h; cases h
      · have h4a : noneM d.run.1 = true := by cases h5 : noneM d.run.1 with
          | true => rfl
          | false => exact absurd (.inl h5) h4
        have h4b : d.run.2 = [] := by
          by_cases h5 : d.run.2 = []
          · exact h5
          · exact absurd (.inr h5) h4
        by_cases h5 : d.many < 1 ∨ 60 < d.many
        · rw [checkD_take_range h1 h2 h3 h4a h4b h5] at h; cases h
        · rw [checkD_take_next h1 h2 h3 h4a h4b h5] at h
          refine ⟨h2, h3, ⟨d.many.toNat, by omega, by omega, by omega⟩, h4a, h4b, h⟩
    · rw [checkD_take_bad h1 h2 h3] at h; exact absurd h h3
  · rw [checkD_kind h1 h2] at h; cases h
theorem deed_put {d : De} (h : checkD d = 0) (h1 : d.kind = 1) : checkR d.run = 0 ∧ noneM d.mark = true ∧ d.many = 0 := by
  by_cases h2 : checkR d.run = 0
  · by_cases h3 : noneM d.mark = false ∨ d.many ≠ 0
    · rw [checkD_put_form h1 h2 h3] at h; cases h
    · refine ⟨h2, ?_, ?_⟩
      · cases h5 : noneM d.mark with
        | true => rfl
        | false => exact absurd (.inl h5) h3
      · by_cases h5 : d.many = 0
        · exact h5
        · exact absurd (.inr h5) h3
  · rw [checkD_put_bad h1 h2] at h; exact absurd h h2
/-- the marks that a deed that is right names are right -/
theorem marksN_right {m : Mk} {n : Nat} (h : (nextM m ((n : Int) - 1)).2 = 0) : ∀ x ∈ marksN m n, checkM x = 0 := by
  obtain ⟨h1, h2, h3, h4⟩ := nextM_ok.1 h
  intro x hx
  unfold marksN at hx
  obtain ⟨i, hi, rfl⟩ := List.mem_map.1 hx
  have : i < n := by simpa using hi
  exact check_between h1 h4 (by omega) (by omega)
theorem atoms_marks (r : Rn) : (atomsR r).map (·.1) = marksN r.1 r.2.length := by simp [atomsR, marksN]
theorem marksD_right {d : De} (h : checkD d = 0) : ∀ x ∈ marksD d, checkM x = 0 := by
  unfold marksD
  by_cases h1 : d.kind = 1
  · rw [if_pos h1]
    exact marksN_right (checkR_parts (deed_put h h1).1).2.2.2.2
  · rw [if_neg h1]
    obtain ⟨_, _, ⟨n, hn, _, _⟩, _, _, h6⟩ := deed_take h h1
    rw [hn] at h6 ⊢
    exact marksN_right h6
theorem doDeed_right {s : St} {d : De} (hs : RightS s) (hd : checkD d = 0) : RightS (doDeed s d) := by
  obtain ⟨h1, h2, h3, h4⟩ := hs
  unfold doDeed
  by_cases hk : d.kind = 1
  · rw [if_pos hk]
    have hr := (checkA_ok (atoms_right (deed_put hd hk).1)).2.2
    refine ⟨putNs_right h1 hr, h2, h3, fun m hm => ?_⟩
    cases h : hasM (putNs s.2 s.1 (atomsR d.run)) m with
    | false => rfl
    | true =>
      rcases hasM_putNs _ _ h with h5 | ⟨a, _, _, h6⟩
      · rw [h4 m hm] at h5; cases h5
      · rw [hasG_iff.2 hm] at h6; cases h6
  · rw [if_neg hk]
    refine ⟨takeA_right h1, putGs_sorted h2, fun m hm => ?_, fun m hm => ?_⟩
    · rcases putGs_mem hm with h | h
      · exact h3 m h
      · exact marksD_right hd m h
    · cases h : hasM (takeA s.1 (marksD d)) m with
      | false => rfl
      | true =>
        obtain ⟨h5, h6⟩ := hasM_takeA.1 h
        rcases putGs_mem hm with h7 | h7
        · rw [h4 m h7] at h5; cases h5
        · rw [hasG_iff.2 h7] at h6; cases h6
theorem tooMuch_no {s : St} (h : tooMuch s = false) : s.1.length ≤ 300 ∧ s.2.length ≤ 600 := by
  unfold tooMuch at h
  simp at h
  omega
theorem doDs_fit : ∀ {l : List De} {s t : St}, FitS s → (∀ d ∈ l, checkD d = 0) → doDs s l = some t → FitS t
  | [], s, t, hs, _, h => by
    have : s = t := by simpa [doDs] using h
    exact this ▸ hs
  | d :: l, s, t, hs, hd, h => by
    unfold doDs at h
    cases hm : tooMuch (doDeed s d) with
    | true => rw [hm, if_pos rfl] at h; cases h
    | false =>
      rw [hm, if_neg (by simp)] at h
      exact doDs_fit ⟨doDeed_right hs.1 (hd d (by simp)), (tooMuch_no hm).1, (tooMuch_no hm).2⟩ (fun x hx => hd x (by simp [hx])) h
theorem doDs_app : ∀ (l m : List De) (s : St), doDs s (l ++ m) = (doDs s l).bind fun t => doDs t m
  | [], m, s => rfl
  | d :: l, m, s => by
    show (if tooMuch (doDeed s d) = true then none else doDs (doDeed s d) (l ++ m)) = (if tooMuch (doDeed s d) = true then none else doDs (doDeed s d) l).bind fun t => doDs t m
    by_cases h : tooMuch (doDeed s d) = true
    · rw [if_pos h, if_pos h]; rfl
    · rw [if_neg h, if_neg h]; exact doDs_app l m _
theorem doDs_one (s : St) (d : De) : doDs s [d] = if tooMuch (doDeed s d) = true then none else some (doDeed s d) := by unfold doDs; rfl
theorem doDs_take {s t : St} {l : List De} {k : Nat} {d : De} (h : l[k]? = some d) (ht : doDs s (l.take k) = some t) :
    (tooMuch (doDeed t d) = true → doDs s l = none) ∧ (tooMuch (doDeed t d) = false → doDs s (l.take (k + 1)) = some (doDeed t d)) := by
  obtain ⟨h1, h2⟩ := List.getElem?_eq_some_iff.1 h
  have e : doDs s (l.take (k + 1)) = if tooMuch (doDeed t d) = true then none else some (doDeed t d) := by
    rw [List.take_succ_eq_append_getElem h1, h2, doDs_app, ht]
    exact doDs_one t d
  refine ⟨fun hm => ?_, fun hm => ?_⟩
  · have e2 : l = l.take (k + 1) ++ l.drop (k + 1) := (List.take_append_drop _ _).symm
    rw [e2, doDs_app, e, if_pos hm]; rfl
  · rw [e, if_neg (by rw [hm]; simp)]
/-- what doing deeds answers -/
def allE (s : St) (l : List De) : Int := if checkS s ≠ 0 then checkS s else if checkDL l ≠ 0 then checkDL l else if doDs s l = none then 2 else 0
def allV (s : St) (l : List De) : St := if allE s l = 0 then (doDs s l).getD ([], []) else ([], [])
theorem allE_ok {s : St} {l : List De} : allE s l = 0 ↔ FitS s ∧ (∀ d ∈ l, checkD d = 0) ∧ doDs s l ≠ none := by
  unfold allE
  rw [← checkS_fit, ← checkDL_ok]
  by_cases h1 : checkS s = 0
  · by_cases h2 : checkDL l = 0
    · rw [if_neg (by simpa using h1), if_neg (by simpa using h2)]
      split
      · rename_i h; simp [h1, h2, h]
      · rename_i h; simp [h1, h2, h]
    · rw [if_neg (by simpa using h1), if_pos h2]; simp [h2]
  · rw [if_pos h1]; simp [h1]
end Go.Proofs.Ytiladkinndgeaaa
/- Deeds, with errors: behind so many. -/
namespace Go.Proofs.Ytiladkinndgeaaa
open Go Go.RowKit Cp

def errL (s : St) (l : List De) : Int := if checkS s ≠ 0 then checkS s else checkDL l
/-- behind k deeds -/
def AllAt (s : St) (l : List De) (k : Nat) (er : Int) : Prop := (er = 0 ∧ checkS s = 0 ∧ errL s l = checkDL (l.drop k)) ∨ (er ≠ 0 ∧ errL s l = er)
theorem allAt_start (s : St) (l : List De) : AllAt s l 0 (checkS s) := by
  by_cases h : checkS s = 0
  · exact .inl ⟨h, h, by unfold errL; rw [if_neg (by simpa using h), List.drop_zero]⟩
  · exact .inr ⟨h, by unfold errL; rw [if_pos h]⟩
theorem allAt_next {s : St} {l : List De} {k : Nat} {d : De} (h : AllAt s l k 0) (hd : l[k]? = some d) : AllAt s l (k + 1) (checkD d) := by
  rcases h with ⟨_, h1, h2⟩ | ⟨h, _⟩
  · by_cases h3 : checkD d = 0
    · exact .inl ⟨h3, h1, by rw [h2, checkDL_next hd h3]⟩
    · exact .inr ⟨h3, by rw [h2, checkDL_bad hd h3]⟩
  · exact absurd rfl h
theorem allAt_end {s : St} {l : List De} {k : Nat} {er : Int} (h : AllAt s l k er) (hk : l.length ≤ k ∨ er ≠ 0) : errL s l = er := by
  rcases h with ⟨h0, _, h2⟩ | ⟨_, h⟩
  · rcases hk with hk | hk
    · rw [h2, checkDL_end hk, h0]
    · exact absurd h0 hk
  · exact h
theorem allE_err {s : St} {l : List De} (h : errL s l ≠ 0) : allE s l = errL s l ∧ allV s l = ([], []) := by
  have e : allE s l = errL s l := by
    unfold errL at h ⊢; unfold allE
    by_cases h1 : checkS s = 0
    · simp only [h1, ne_eq, not_true_eq_false, if_false] at h ⊢
      rw [if_pos h]
    · rw [if_pos h1, if_pos h1]
  refine ⟨e, ?_⟩
  unfold allV
  rw [e, if_neg h]
theorem allE_run {s : St} {l : List De} (h : errL s l = 0) : FitS s ∧ (∀ d ∈ l, checkD d = 0) ∧ (doDs s l = none → allE s l = 2 ∧ allV s l = ([], [])) ∧ ∀ t, doDs s l = some t → allE s l = 0 ∧ allV s l = t := by
  have h1 : checkS s = 0 := by
    by_cases h1 : checkS s = 0
    · exact h1
    · unfold errL at h; rw [if_pos h1] at h; exact absurd h h1
  have h2 : checkDL l = 0 := by unfold errL at h; rwa [if_neg (by simpa using h1)] at h
  refine ⟨checkS_fit.1 h1, checkDL_ok.1 h2, fun h3 => ?_, fun t h3 => ?_⟩
  · have e : allE s l = 2 := by unfold allE; rw [if_neg (by simpa using h1), if_neg (by simpa using h2), if_pos h3]
    exact ⟨e, by unfold allV; rw [e]; rfl⟩
  · have e : allE s l = 0 := by unfold allE; rw [if_neg (by simpa using h1), if_neg (by simpa using h2), if_neg (by rw [h3]; simp)]
    exact ⟨e, by unfold allV; rw [e, h3]; rfl⟩
end Go.Proofs.Ytiladkinndgeaaa
/- SameDeed, SameDeeds: of the same. -/
namespace Go.Proofs.Ytiladkinndgeaaa
open Go Go.RowKit Go.BigFrame Cp

set_option maxRecDepth 100000 in
set_option maxHeartbeats 4000000 in
theorem sameDeed_any {F G : Nat → Prop} {w : World} {cs ds : List Value} {d : De} (h : RDe F w cs d) (k : RDe G w ds d) :
    Calls Try.prog 64 #[.agg cs.toArray, .agg ds.toArray] w fun e w' => e = .returned (.bool true) ∧ Ext w w' := by
  obtain ⟨v, x, u, rfl, _, h1, h2, h3, h4, h5, _⟩ := h
  obtain ⟨v', x', u', rfl, _, k1, k2, k3, k4, k5, _⟩ := k
  obtain ⟨kd, ⟨⟨p, c⟩, t⟩, ⟨m, e⟩, mn⟩ := d
  simp only at h1 h2 h3 h4 h5 k1 k2 k3 k4 k5 ⊢
  obtain ⟨s, rfl, rfl, hs⟩ := tx_bytes h3
  obtain ⟨s2, rfl, e2, hs2⟩ := tx_bytes k3
  obtain rfl := bytes_eq e2
  have HS := Lib.hid (fun (W : World) (hx : Ext w W) => same_same (rmk_of' (h4.ext gStp hx) h5) (rmk_of' (k4.ext gStp hx) k5))
  have HR := Lib.hid (fun (W : World) (hx : Ext w W) => sameRun_any (rrn_of (h1.ext gStp hx) h2 (rtx_s hs)) (rrn_of (k1.ext gStp hx) k2 (rtx_s hs)))
  obtain ⟨a1, n1, c1, rfl⟩ := h1.slice
  obtain ⟨a2, n2, c2, rfl⟩ := h4.slice
  obtain ⟨a3, n3, c3, rfl⟩ := k1.slice
  obtain ⟨a4, n4, c4, rfl⟩ := k4.slice
  clear h1 h2 h3 h4 h5 k1 k2 k3 k4 k5 e2
  go_enter Try.func64, Try.ntmps64
  go_wp2_with (first | (go_at_call 75; go_must ((with_reducible refine (HS.out _ extA).mono ?_); rintro e w1 ⟨rfl, hx1⟩; have hs1 := hx1.size; (try simp at hs1); have p0 := (hx1.cells (w.heap.size) 0 (by first | omega | (simp <;> omega))).trans (show _ = some (.int .i64 kd) by first | (with_reducible assumption) | go_simp); have p1 := (hx1.cells (w.heap.size) 1 (by first | omega | (simp <;> omega))).trans (show _ = some (.slice a1 n1 c1) by first | (with_reducible assumption) | go_simp); have p2 := (hx1.cells (w.heap.size) 2 (by first | omega | (simp <;> omega))).trans (show _ = some (.int .i64 c) by first | (with_reducible assumption) | go_simp); have p3 := (hx1.cells (w.heap.size) 3 (by first | omega | (simp <;> omega))).trans (show _ = some (.string s) by first | (with_reducible assumption) | go_simp); have p4 := (hx1.cells (w.heap.size) 4 (by first | omega | (simp <;> omega))).trans (show _ = some (.slice a2 n2 c2) by first | (with_reducible assumption) | go_simp); have p5 := (hx1.cells (w.heap.size) 5 (by first | omega | (simp <;> omega))).trans (show _ = some (.int .i64 e) by first | (with_reducible assumption) | go_simp); have p6 := (hx1.cells (w.heap.size) 6 (by first | omega | (simp <;> omega))).trans (show _ = some (.int .i64 mn) by first | (with_reducible assumption) | go_simp); have p7 := (hx1.cells (w.heap.size + 1) 0 (by first | omega | (simp <;> omega))).trans (show _ = some (.int .i64 kd) by first | (with_reducible assumption) | go_simp); have p8 := (hx1.cells (w.heap.size + 1) 1 (by first | omega | (simp <;> omega))).trans (show _ = some (.slice a3 n3 c3) by first | (with_reducible assumption) | go_simp); have p9 := (hx1.cells (w.heap.size + 1) 2 (by first | omega | (simp <;> omega))).trans (show _ = some (.int .i64 c) by first | (with_reducible assumption) | go_simp); have p10 := (hx1.cells (w.heap.size + 1) 3 (by first | omega | (simp <;> omega))).trans (show _ = some (.string s) by first | (with_reducible assumption) | go_simp); have p11 := (hx1.cells (w.heap.size + 1) 4 (by first | omega | (simp <;> omega))).trans (show _ = some (.slice a4 n4 c4) by first | (with_reducible assumption) | go_simp); have p12 := (hx1.cells (w.heap.size + 1) 5 (by first | omega | (simp <;> omega))).trans (show _ = some (.int .i64 e) by first | (with_reducible assumption) | go_simp); have p13 := (hx1.cells (w.heap.size + 1) 6 (by first | omega | (simp <;> omega))).trans (show _ = some (.int .i64 mn) by first | (with_reducible assumption) | go_simp))) | (go_at_call 76; go_must ((with_reducible refine (HR.out _ extA).mono ?_); rintro e w2 ⟨rfl, hx2⟩; )))
  go_ret
  exact ⟨rfl, extA⟩
set_option maxRecDepth 100000 in
set_option maxHeartbeats 4000000 in
theorem sameDeeds_any {F G : Nat → Prop} {w : World} {v u : Value} {l : List De} (h : RSl RDe 7 F w v l) (k : RSl RDe 7 G w u l) :
    Calls Try.prog 45 #[v, u] w fun e w' => e = .returned (.bool true) ∧ Ext w w' := by
  have HL := Lib.hid (fun (W : World) (hx : Ext w W) => h.ext gDe hx)
  have HM := Lib.hid (fun (W : World) (hx : Ext w W) => k.ext gDe hx)
  obtain ⟨a, n, c, rfl⟩ := h.slice
  obtain ⟨a2, n2, c2, rfl⟩ := k.slice
  obtain ⟨rfl, hn1, hn2⟩ := h.len
  obtain ⟨rfl, _, _⟩ := k.len
  unfold maxLen at hn2
  have q1 : l.length ≤ 9223372036854775807 := by omega
  clear h k hn1 hn2
  go_enter Try.func45, Try.ntmps45
  go_wp2
  go_loopw [5] (fun i wr => ∃ q : Nat, q ≤ l.length ∧ i = .int .i64 q ∧ Ext w wr) (fun i _ => l.length - (intOf i).toNat)
  case atStart => exact ⟨0, Nat.zero_le _, rfl, ext_refl _⟩
  case round =>
    obtain ⟨q, hq, rfl, hx⟩ := hrel
    have HX := Lib.hid hx
    clear hx
    by_cases hlt : q < l.length
    · obtain ⟨b, o, d, b1, m1, e1, b2, m2, e2, s, rfl, hb, ek, hde, u0, u1, u2, u3, u4, u5, u6⟩ := deed_at (HL.out wr HX.out) hlt
      obtain ⟨b', o', d', b1', m1', e1', b2', m2', e2', s', rfl, hb', ek', hde', v0, v1, v2, v3, v4, v5, v6⟩ := deed_at (HM.out wr HX.out) hlt
      obtain rfl : d = d' := by rw [ek] at ek'; exact Option.some.inj ek'
      have HSM := Lib.hid (fun (W : World) (hx : Ext wr W) => sameDeed_any (gDe.ext hde hx) (gDe.ext hde' hx))
      generalize d.kind = dk at *
      generalize d.run.1.2 = rc at *
      generalize d.mark.2 = mc at *
      generalize d.many = dn at *
      clear ek ek' hde hde'
      go_wp2_with fail
      refine wp_name (fun W2 eW2 => ?_)
      have f0 : W2.cell? ⟨b, o + q * 7, none⟩ = some (.int .i64 dk) := by rw [eW2]; go_simp
      have f1 : W2.cell? ⟨b, o + q * 7 + 1, none⟩ = some (.slice b1 m1 e1) := by rw [eW2]; go_simp
      have f2 : W2.cell? ⟨b, o + q * 7 + 2, none⟩ = some (.int .i64 rc) := by rw [eW2]; go_simp
      have f3 : W2.cell? ⟨b, o + q * 7 + 3, none⟩ = some (.string s) := by rw [eW2]; go_simp
      have f4 : W2.cell? ⟨b, o + q * 7 + 4, none⟩ = some (.slice b2 m2 e2) := by rw [eW2]; go_simp
      have f5 : W2.cell? ⟨b, o + q * 7 + 5, none⟩ = some (.int .i64 mc) := by rw [eW2]; go_simp
      have f6 : W2.cell? ⟨b, o + q * 7 + 6, none⟩ = some (.int .i64 dn) := by rw [eW2]; go_simp
      have f7 : W2.cell? ⟨b', o' + q * 7, none⟩ = some (.int .i64 dk) := by rw [eW2]; go_simp
      have f8 : W2.cell? ⟨b', o' + q * 7 + 1, none⟩ = some (.slice b1' m1' e1') := by rw [eW2]; go_simp
      have f9 : W2.cell? ⟨b', o' + q * 7 + 2, none⟩ = some (.int .i64 rc) := by rw [eW2]; go_simp
      have f10 : W2.cell? ⟨b', o' + q * 7 + 3, none⟩ = some (.string s') := by rw [eW2]; go_simp
      have f11 : W2.cell? ⟨b', o' + q * 7 + 4, none⟩ = some (.slice b2' m2' e2') := by rw [eW2]; go_simp
      have f12 : W2.cell? ⟨b', o' + q * 7 + 5, none⟩ = some (.int .i64 mc) := by rw [eW2]; go_simp
      have f13 : W2.cell? ⟨b', o' + q * 7 + 6, none⟩ = some (.int .i64 dn) := by rw [eW2]; go_simp
      have zW2_0 : b < W2.heap.size := by rw [eW2]; first | assumption | omega | (simp <;> omega)
      have zW2_1 : b' < W2.heap.size := by rw [eW2]; first | assumption | omega | (simp <;> omega)
      have hw2 : Ext wr W2 := by rw [eW2]; exact extA
      clear eW2
      refine wp_region_later fol (by kernel_rfl) (fun hlater => ?_)
      repeat (go_big_quiet_step ((first
          | (go_at_call 64; (with_reducible exact later_of (HSM.out _ (ext_trans hw2 (Later.ext _))))))))
      refine wpQuiet_nil ?_
      rintro w3 ⟨⟨w3x, hx3⟩, rfl⟩
      clear hlater
      go_wp2_with fail
      go_roundw
      case rel => exact ⟨q + 1, by omega, by go_num, ext_trans HX.out (ext_trans hw2 hx3)⟩
      case measure => simp [intOf]; omega
    · go_wp2
      go_ret
      exact ⟨rfl, HX.out⟩
end Go.Proofs.Ytiladkinndgeaaa
