/- MarkBetween: as many marks as are asked, rising, all between the two: the walk. -/
import Derived.Test.YthkhkbjkbpgaoaaM2
set_option linter.unusedVariables false
set_option linter.unusedSimpArgs false
namespace Go.Proofs.Ythkhkbjkbpgaoaa
open Go Go.RowKit Go.BigFrame Cp

set_option maxRecDepth 100000 in
set_option maxHeartbeats 4000000 in
theorem markBetween_any {F G : Nat → Prop} {w : World} {cs ds : List Value} {a b : Mk} {site clock many : Int} (ha : RMk F w cs a) (hb : RMk G w ds b) (hc : I64 clock) (hm : I64 many) :
    Calls Try.prog 8 #[.agg cs.toArray, .agg ds.toArray, .int .i64 site, .int .i64 clock, .int .i64 many] w fun e w' => e = .returned (.bool true) ∧ Ext w w' := by
  have HA := Lib.hid (fun (W : World) (hx : Ext w W) => gMk.ext ha hx)
  have HB := Lib.hid (fun (W : World) (hx : Ext w W) => gMk.ext hb hx)
  obtain ⟨va, rfl, hl, _⟩ := ha
  obtain ⟨vb, rfl, hmm, _⟩ := hb
  obtain ⟨l, c⟩ := a
  obtain ⟨m, d⟩ := b
  simp only at hl hmm HA HB ⊢
  obtain ⟨a1, n1, c1, rfl⟩ := hl.slice
  obtain ⟨a2, n2, c2, rfl⟩ := hmm.slice
  obtain ⟨rfl, _, _⟩ := hl.len
  obtain ⟨rfl, _, _⟩ := hmm.len
  have HM := Lib.hid (fun (W : World) (hx : Ext w W) => marks_any (site := site) (HA.out W hx) (HB.out W hx) hc hm)
  have HC := Lib.hid (fun (W : World) (hx : Ext w W) => checkBetween_any (site := site) (HA.out W hx) (HB.out W hx) hc hm)
  clear hl hmm hc hm
  by_cases h0 : betweenErr (l, c) (m, d) site clock many = 0
  · obtain ⟨_, _, _, hc1, hm1, _, _, hl1, hl2⟩ := betweenErr_ok h0
    have hq := between_is h0
    rw [if_pos h0] at HM
    rw [h0] at HM HC
    generalize betweenL (l, c) (m, d) site clock many = q at HM hq
    have HI := Lib.hid (fun (W : World) (hx : Ext w W) (H : Nat → Prop) (v : Value) (hv : RSl RMk 2 H W v q) => isBetween_any (HA.out W hx) (HB.out W hx) hv hq hc1 hm1 hl1 hl2)
    clear h0 hq hc1 hm1 hl1 hl2
    go_enter Try.func8, Try.ntmps8
    go_wp2_with (first
        | (go_at_call 36; go_must ((with_reducible refine (HM.out _ (by repeat (first | (with_reducible exact ext_refl _) | (with_reducible assumption) | (with_reducible refine ext_drew ?_) | (with_reducible refine ext_drewN ?_ _) | (with_reducible refine ext_alloc ?_ _) | (with_reducible refine ext_set ?_ (by first | omega | (simp <;> omega)) _) | (with_reducible refine ext_trans ?_ (by with_reducible assumption))))).mono ?_); rintro e w1 ⟨v1, rfl, hv1, hx1⟩; obtain ⟨a1', n1', c1', rfl⟩ := hv1.slice; obtain rfl : n1' = q.length := hv1.len.1; have HV1 := Lib.hid hv1; clear hv1; have hc1 := hx1.cells; have hz1 := hx1.size; (try simp at hz1); have hb1_0 : w.heap.size < w1.heap.size := (by omega); have hb1_1 : w.heap.size + 1 < w1.heap.size := (by omega)))
        | (go_at_call 37; go_must ((with_reducible refine (HC.out _ (by repeat (first | (with_reducible exact ext_refl _) | (with_reducible assumption) | (with_reducible refine ext_drew ?_) | (with_reducible refine ext_drewN ?_ _) | (with_reducible refine ext_alloc ?_ _) | (with_reducible refine ext_set ?_ (by first | omega | (simp <;> omega)) _) | (with_reducible refine ext_trans ?_ (by with_reducible assumption))))).mono ?_); rintro e w2 ⟨rfl, hx2⟩; have hc2 := hx2.cells; have hz2 := hx2.size; (try simp at hz2); have hb2_0 : w.heap.size < w2.heap.size := (by omega); have hb2_1 : w.heap.size + 1 < w2.heap.size := (by omega)))
        | (go_at_call 32; go_must ((with_reducible refine (markBegun_any _).mono ?_); rintro e w3 ⟨rfl, hx3⟩; have hc3 := hx3.cells; have hz3 := hx3.size; (try simp at hz3); have hb3_0 : w.heap.size < w3.heap.size := (by omega); have hb3_1 : w.heap.size + 1 < w3.heap.size := (by omega)))
        | (go_at_call 38; go_must ((with_reducible refine (HI.out _ (by repeat (first | (with_reducible exact ext_refl _) | (with_reducible assumption) | (with_reducible refine ext_drew ?_) | (with_reducible refine ext_drewN ?_ _) | (with_reducible refine ext_alloc ?_ _) | (with_reducible refine ext_set ?_ (by first | omega | (simp <;> omega)) _) | (with_reducible refine ext_trans ?_ (by with_reducible assumption)))) _ _ (HV1.out.ext gMk (by repeat (first | (with_reducible exact ext_refl _) | (with_reducible assumption) | (with_reducible refine ext_drew ?_) | (with_reducible refine ext_drewN ?_ _) | (with_reducible refine ext_alloc ?_ _) | (with_reducible refine ext_set ?_ (by first | omega | (simp <;> omega)) _) | (with_reducible refine ext_trans ?_ (by with_reducible assumption)))))).mono ?_); rintro e w4 ⟨rfl, hx4⟩; have hc4 := hx4.cells; have hz4 := hx4.size; (try simp at hz4); have hb4_0 : w.heap.size < w4.heap.size := (by omega); have hb4_1 : w.heap.size + 1 < w4.heap.size := (by omega))))
    go_ret
    exact ⟨rfl, (by repeat (first | (with_reducible exact ext_refl _) | (with_reducible assumption) | (with_reducible refine ext_drew ?_) | (with_reducible refine ext_drewN ?_ _) | (with_reducible refine ext_alloc ?_ _) | (with_reducible refine ext_set ?_ (by first | omega | (simp <;> omega)) _) | (with_reducible refine ext_trans ?_ (by with_reducible assumption))))⟩
  · rw [if_neg h0] at HM
    have t1 : (betweenErr (l, c) (m, d) site clock many != 0) = true := by simpa using h0
    generalize betweenErr (l, c) (m, d) site clock many = er at HM HC t1 h0
    clear h0
    go_enter Try.func8, Try.ntmps8
    go_wp2_with (first
        | (go_at_call 36; go_must ((with_reducible refine (HM.out _ (by repeat (first | (with_reducible exact ext_refl _) | (with_reducible assumption) | (with_reducible refine ext_drew ?_) | (with_reducible refine ext_drewN ?_ _) | (with_reducible refine ext_alloc ?_ _) | (with_reducible refine ext_set ?_ (by first | omega | (simp <;> omega)) _) | (with_reducible refine ext_trans ?_ (by with_reducible assumption))))).mono ?_); rintro e w1 ⟨v1, rfl, hv1, hx1⟩; obtain ⟨a1', n1', c1', rfl⟩ := hv1.slice; obtain rfl : n1' = 0 := hv1.len.1; have HV1 := Lib.hid hv1; clear hv1; have hc1 := hx1.cells; have hz1 := hx1.size; (try simp at hz1); have hb1_0 : w.heap.size < w1.heap.size := (by omega); have hb1_1 : w.heap.size + 1 < w1.heap.size := (by omega)))
        | (go_at_call 37; go_must ((with_reducible refine (HC.out _ (by repeat (first | (with_reducible exact ext_refl _) | (with_reducible assumption) | (with_reducible refine ext_drew ?_) | (with_reducible refine ext_drewN ?_ _) | (with_reducible refine ext_alloc ?_ _) | (with_reducible refine ext_set ?_ (by first | omega | (simp <;> omega)) _) | (with_reducible refine ext_trans ?_ (by with_reducible assumption))))).mono ?_); rintro e w2 ⟨rfl, hx2⟩; have hc2 := hx2.cells; have hz2 := hx2.size; (try simp at hz2); have hb2_0 : w.heap.size < w2.heap.size := (by omega); have hb2_1 : w.heap.size + 1 < w2.heap.size := (by omega)))
        | (go_at_call 32; go_must ((with_reducible refine (markBegun_any _).mono ?_); rintro e w3 ⟨rfl, hx3⟩; have hc3 := hx3.cells; have hz3 := hx3.size; (try simp at hz3); have hb3_0 : w.heap.size < w3.heap.size := (by omega); have hb3_1 : w.heap.size + 1 < w3.heap.size := (by omega))))
    go_ret
    exact ⟨rfl, (by repeat (first | (with_reducible exact ext_refl _) | (with_reducible assumption) | (with_reducible refine ext_drew ?_) | (with_reducible refine ext_drewN ?_ _) | (with_reducible refine ext_alloc ?_ _) | (with_reducible refine ext_set ?_ (by first | omega | (simp <;> omega)) _) | (with_reducible refine ext_trans ?_ (by with_reducible assumption))))⟩
end Go.Proofs.Ythkhkbjkbpgaoaa
