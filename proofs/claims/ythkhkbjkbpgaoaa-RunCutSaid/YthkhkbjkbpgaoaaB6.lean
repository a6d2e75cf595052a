/- Does an atom go on a run. -/
import Derived.Test.YthkhkbjkbpgaoaaB3
set_option linter.unusedVariables false
set_option linter.unusedSimpArgs false
namespace Go.Proofs.Ythkhkbjkbpgaoaa
open Go Go.RowKit Go.BigFrame Cp

def joinsB (r : Rn) (a : At) : Bool := decide (r.2.length < 60) && (ordM (afterM r.1 r.2.length) a.1 == 0)
set_option maxRecDepth 100000 in
set_option maxHeartbeats 4000000 in
theorem joins_any {F G : Nat → Prop} {w : World} {cs ds : List Value} {r : Rn} {a : At} (h : RRn F w cs r) (k : RAt G w ds a) (hc : checkM r.1 = 0) :
    Calls Try.prog 97 #[.agg cs.toArray, .agg ds.toArray] w fun e w' => e = .returned (.bool (joinsB r a)) ∧ Ext w w' := by
  obtain ⟨v, u, rfl, hl, hi, hu⟩ := h
  obtain ⟨v2, rfl, hm, hj⟩ := k
  obtain ⟨⟨l, c⟩, t⟩ := r
  obtain ⟨⟨m, d⟩, x⟩ := a
  simp only at hl hi hu hm hj hc
  obtain ⟨s, rfl, rfl, hs⟩ := tx_bytes hu
  have hsl : s.data.toList.length = s.size := by simp
  have HAF := Lib.hid (fun (hk : s.size < 60) (W : World) (hx : Ext w W) => after_any (k := (s.size : Int)) (rmk_of' (hl.ext gStp hx) hi) (check_len hc) (check_ne hc) (check_digit hc) (check_clock hc) ⟨by omega, by omega⟩)
  have HM := Lib.hid (fun (W : World) (hx : Ext w W) => rmk_of' (hm.ext gStp hx) hj)
  obtain ⟨a1, n1, c1, rfl⟩ := hl.slice
  obtain ⟨a2, n2, c2, rfl⟩ := hm.slice
  clear hl hm hu hc
  by_cases h0 : s.size < 60
  · have HB := Lib.hid (show joinsB ((l, c), s.data.toList) ((m, d), x) = (ordM (afterM (l, c) (s.size : Int)) (m, d) == 0) by unfold joinsB; rw [hsl, decide_eq_true h0]; rfl)
    have HAK := Lib.hid (HAF.out h0)
    have t0 : decide ((s.size : Int) < 60) = true := decide_eq_true (by omega)
    have t1 : decide (s.size < 60) = true := decide_eq_true h0
    clear hsl HAF
    go_enter Try.func97, Try.ntmps97
    go_wp2_with fail
    go_region_held3 (fun W => W.cell? ⟨w.heap.size, 0, none⟩ = some (.slice a1 n1 c1) ∧ W.cell? ⟨w.heap.size, 1, none⟩ = some (.int .i64 c) ∧ W.cell? ⟨w.heap.size, 2, none⟩ = some (.string s) ∧ W.cell? ⟨w.heap.size + 1, 0, none⟩ = some (.slice a2 n2 c2) ∧ W.cell? ⟨w.heap.size + 1, 1, none⟩ = some (.int .i64 d))
      (first | go_keep | (refine ⟨?_, ?_, ?_, ?_, ?_⟩ <;> (rw [hx3.cells _ _ (by first | omega | (simp <;> omega))]; first | assumption | go_simp)) | (refine ⟨?_, ?_, ?_, ?_, ?_⟩ <;> (rw [hx2.cells _ _ (by first | omega | (simp <;> omega))]; first | assumption | go_simp)))
      (first
        | (go_at_call 64; go_must ((with_reducible refine (HAK.out _ (by repeat (first | (with_reducible exact ext_refl _) | (with_reducible assumption) | (with_reducible refine ext_drew ?_) | (with_reducible refine ext_drewN ?_ _) | (with_reducible refine ext_alloc ?_ _) | (with_reducible refine ext_set ?_ (by first | omega | (simp <;> omega)) _) | (with_reducible refine ext_trans ?_ (by with_reducible assumption))))).mono ?_); rintro e w2 ⟨cs2, rfl, hm2, hx2⟩; have HM2 := Lib.hid (omk_mk hm2); obtain ⟨v2, rfl, hv2, hi2⟩ := hm2; obtain ⟨a3, n3, c3, rfl⟩ := osl_slice hv2; have hz2 := hx2.size; (try simp at hz2); have hb2 : w.heap.size < w2.heap.size := (by omega); have hb2' : w.heap.size + 1 < w2.heap.size := (by omega); clear hv2 hi2))
        | (go_at_call 34; go_must ((with_reducible refine (order_any (gMk.ext HM2.out (by repeat (first | (with_reducible exact ext_refl _) | (with_reducible assumption) | (with_reducible refine ext_drew ?_) | (with_reducible refine ext_drewN ?_ _) | (with_reducible refine ext_alloc ?_ _) | (with_reducible refine ext_set ?_ (by first | omega | (simp <;> omega)) _) | (with_reducible refine ext_trans ?_ (by with_reducible assumption))))) (HM.out _ (by repeat (first | (with_reducible exact ext_refl _) | (with_reducible assumption) | (with_reducible refine ext_drew ?_) | (with_reducible refine ext_drewN ?_ _) | (with_reducible refine ext_alloc ?_ _) | (with_reducible refine ext_set ?_ (by first | omega | (simp <;> omega)) _) | (with_reducible refine ext_trans ?_ (by with_reducible assumption)))))).mono ?_); rintro e w3 ⟨rfl, hx3⟩; have hz3 := hx3.size; (try simp at hz3); have hb3 : w.heap.size < w3.heap.size := (by omega); have hb3' : w.heap.size + 1 < w3.heap.size := (by omega))))
    all_goals go_wp2_with fail
    all_goals go_ret
    all_goals exact ⟨rb HB.out.symm, (by repeat (first | (with_reducible exact ext_refl _) | (with_reducible assumption) | (with_reducible refine ext_drew ?_) | (with_reducible refine ext_drewN ?_ _) | (with_reducible refine ext_alloc ?_ _) | (with_reducible refine ext_set ?_ (by first | omega | (simp <;> omega)) _) | (with_reducible refine ext_trans ?_ (by with_reducible assumption))))⟩
  · have HB := Lib.hid (show joinsB ((l, c), s.data.toList) ((m, d), x) = false by unfold joinsB; rw [hsl, decide_eq_false h0]; rfl)
    have t0 : decide ((s.size : Int) < 60) = false := decide_eq_false (by omega)
    have t1 : decide (s.size < 60) = false := decide_eq_false h0
    clear hsl HAF
    go_enter Try.func97, Try.ntmps97
    go_wp2_with fail
    refine wp_name (fun W2 eW2 => ?_)
    have e0 : W2.cell? ⟨w.heap.size, 0, none⟩ = some (.slice a1 n1 c1) := by rw [eW2]; go_simp
    have e1 : W2.cell? ⟨w.heap.size, 1, none⟩ = some (.int .i64 c) := by rw [eW2]; go_simp
    have e2 : W2.cell? ⟨w.heap.size, 2, none⟩ = some (.string s) := by rw [eW2]; go_simp
    have e3 : W2.cell? ⟨w.heap.size + 1, 0, none⟩ = some (.slice a2 n2 c2) := by rw [eW2]; go_simp
    have e4 : W2.cell? ⟨w.heap.size + 1, 1, none⟩ = some (.int .i64 d) := by rw [eW2]; go_simp
    have zW2_0 : w.heap.size < W2.heap.size := by rw [eW2]; first | assumption | omega | (simp <;> omega)
    have zW2_1 : w.heap.size + 1 < W2.heap.size := by rw [eW2]; first | assumption | omega | (simp <;> omega)
    have hw2 : Ext w W2 := by rw [eW2]; exact (by repeat (first | (with_reducible exact ext_refl _) | (with_reducible assumption) | (with_reducible refine ext_drew ?_) | (with_reducible refine ext_drewN ?_ _) | (with_reducible refine ext_alloc ?_ _) | (with_reducible refine ext_set ?_ (by first | omega | (simp <;> omega)) _) | (with_reducible refine ext_trans ?_ (by with_reducible assumption))))
    clear eW2
    refine wp_region_later fol (by kernel_rfl) (fun hlater => ?_)
    repeat (go_big_quiet_step ((fail)))
    refine wpQuiet_nil ?_
    rintro w3 ⟨⟨w3x, hx3⟩, rfl⟩
    clear hlater
    go_wp2_with fail
    go_ret
    exact ⟨rb HB.out.symm, ext_trans hw2 hx3⟩
end Go.Proofs.Ythkhkbjkbpgaoaa
