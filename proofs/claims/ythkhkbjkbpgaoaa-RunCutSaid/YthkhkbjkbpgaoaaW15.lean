/- What is wrong with what is asked between two marks. -/
import Derived.Test.YthkhkbjkbpgaoaaW6
import Derived.Test.YthkhkbjkbpgaoaaW3
import Derived.Test.YthkhkbjkbpgaoaaW4
import Derived.Test.YthkhkbjkbpgaoaaW13
import Derived.Test.YthkhkbjkbpgaoaaW8
set_option linter.unusedVariables false
set_option linter.unusedSimpArgs false
namespace Go.Proofs.Ythkhkbjkbpgaoaa
open Go Go.RowKit Cp

theorem samePath_any {F G : Nat → Prop} {w : World} {cs ds : List Value} {a b : Mk} (ha : RMk F w cs a) (hb : RMk G w ds b) :
    Calls Try.prog 78 #[.agg cs.toArray, .agg ds.toArray] w fun e w' => e = .returned (.bool (decide (a.1 = b.1))) ∧ Ext w w' := by
  obtain ⟨v, rfl, hl, _⟩ := ha
  obtain ⟨u, rfl, hm, _⟩ := hb
  obtain ⟨l, c⟩ := a
  obtain ⟨m, d⟩ := b
  simp only at hl hm ⊢
  have e1 : decide (l = m) = (ordM (l, 0) (m, 0) == 0) := by
    rw [Bool.eq_iff_iff]
    simp [ordM_zero]
  rw [e1]
  have H := Lib.hid (fun (W : World) (hx : Ext w W) => same_any (a := (l, 0)) (b := (m, 0)) ⟨v, rfl, hl.ext gStp hx, i64_small (by simp) (by simp)⟩ ⟨u, rfl, hm.ext gStp hx, i64_small (by simp) (by simp)⟩)
  clear e1 hl hm
  go_enter Try.func78, Try.ntmps78
  go_wp2_with (go_at_call 29; ((with_reducible refine (H.out _ (by repeat (first | (with_reducible exact ext_refl _) | (with_reducible assumption) | (with_reducible refine ext_drew ?_) | (with_reducible refine ext_drewN ?_ _) | (with_reducible refine ext_alloc ?_ _) | (with_reducible refine ext_set ?_ (by first | omega | (simp <;> omega)) _) | (with_reducible refine ext_trans ?_ (by with_reducible assumption))))).mono ?_); rintro e w1 ⟨rfl, hx1⟩))
  go_ret
  exact ⟨rfl, (by repeat (first | (with_reducible exact ext_refl _) | (with_reducible assumption) | (with_reducible refine ext_drew ?_) | (with_reducible refine ext_drewN ?_ _) | (with_reducible refine ext_alloc ?_ _) | (with_reducible refine ext_set ?_ (by first | omega | (simp <;> omega)) _) | (with_reducible refine ext_trans ?_ (by with_reducible assumption))))⟩

theorem bE (a b : Mk) (site clock many : Int) : betweenErr a b site clock many =
    if (checkM a != 0) && !noneM a then checkM a else if (checkM b != 0) && !noneM b then checkM b
    else if !inB site 0 4 || !inB clock 1 10000 || !inB many 1 60 || decide (10001 - many < clock) then 3
    else if (!noneM a && !noneM b) && (decide (0 ≤ ordM a b) || decide (a.1 = b.1)) then 4
    else if decide (8 < a.1.length) || decide (8 < b.1.length) then 2 else 0 := by
  unfold betweenErr inB
  simp only [Bool.and_eq_true, Bool.or_eq_true, Bool.not_eq_true', bne_iff_ne, ne_eq, Bool.and_eq_false_iff, decide_eq_false_iff_not, decide_eq_true_eq]
  congr 1; congr 1; congr 1
  · apply propext; omega

set_option maxRecDepth 100000 in
set_option maxHeartbeats 4000000 in
theorem checkBetween_any {F G : Nat → Prop} {w : World} {cs ds : List Value} {a b : Mk} {site clock many : Int} (ha : RMk F w cs a) (hb : RMk G w ds b) (hc : I64 clock) (hm : I64 many) :
    Calls Try.prog 37 #[.agg cs.toArray, .agg ds.toArray, .int .i64 site, .int .i64 clock, .int .i64 many] w fun e w' => e = .returned (.int .i64 (betweenErr a b site clock many)) ∧ Ext w w' := by
  have HNA := Lib.hid (fun (W : World) (hx : Ext w W) => none_any (gMk.ext ha hx))
  have HNB := Lib.hid (fun (W : World) (hx : Ext w W) => none_any (gMk.ext hb hx))
  have HCA := Lib.hid (fun (W : World) (hx : Ext w W) => checkMark_any (gMk.ext ha hx))
  have HCB := Lib.hid (fun (W : World) (hx : Ext w W) => checkMark_any (gMk.ext hb hx))
  have HOR := Lib.hid (fun (W : World) (hx : Ext w W) => orderOf_any (gMk.ext ha hx) (gMk.ext hb hx))
  have HSP := Lib.hid (fun (W : World) (hx : Ext w W) => samePath_any (gMk.ext ha hx) (gMk.ext hb hx))
  obtain ⟨v, rfl, hl, _⟩ := ha
  obtain ⟨u, rfl, hmm, _⟩ := hb
  obtain ⟨l, c⟩ := a
  obtain ⟨m, d⟩ := b
  simp only at hl hmm ⊢
  obtain ⟨a1, n1, c1, rfl⟩ := hl.slice
  obtain ⟨a2, n2, c2, rfl⟩ := hmm.slice
  obtain ⟨rfl, _, _⟩ := hl.len
  obtain ⟨rfl, _, _⟩ := hmm.len
  clear hl hmm
  cases g1 : inB clock 1 10000 with
  | false =>
    clear hc hm
    go_enter Try.func37, Try.ntmps37
    go_wp2_with (first
    | (go_at_call 25; ((with_reducible refine (HNA.out _ (by repeat (first | (with_reducible exact ext_refl _) | (with_reducible assumption) | (with_reducible refine ext_drew ?_) | (with_reducible refine ext_drewN ?_ _) | (with_reducible refine ext_alloc ?_ _) | (with_reducible refine ext_set ?_ (by first | omega | (simp <;> omega)) _) | (with_reducible refine ext_trans ?_ (by with_reducible assumption))))).mono ?_); rintro e w1 ⟨rfl, hx1⟩; have hc1 := hx1.cells; have hz1 := hx1.size; (try simp at hz1); have hb1_0 : w.heap.size < w1.heap.size := (by omega); have hb1_1 : w.heap.size + 1 < w1.heap.size := (by omega)))
    | (go_at_call 25; ((with_reducible refine (HNB.out _ (by repeat (first | (with_reducible exact ext_refl _) | (with_reducible assumption) | (with_reducible refine ext_drew ?_) | (with_reducible refine ext_drewN ?_ _) | (with_reducible refine ext_alloc ?_ _) | (with_reducible refine ext_set ?_ (by first | omega | (simp <;> omega)) _) | (with_reducible refine ext_trans ?_ (by with_reducible assumption))))).mono ?_); rintro e w1 ⟨rfl, hx1⟩; have hc1 := hx1.cells; have hz1 := hx1.size; (try simp at hz1); have hb1_0 : w.heap.size < w1.heap.size := (by omega); have hb1_1 : w.heap.size + 1 < w1.heap.size := (by omega)))
    | (go_at_call 26; ((with_reducible refine (HCA.out _ (by repeat (first | (with_reducible exact ext_refl _) | (with_reducible assumption) | (with_reducible refine ext_drew ?_) | (with_reducible refine ext_drewN ?_ _) | (with_reducible refine ext_alloc ?_ _) | (with_reducible refine ext_set ?_ (by first | omega | (simp <;> omega)) _) | (with_reducible refine ext_trans ?_ (by with_reducible assumption))))).mono ?_); rintro e w1 ⟨rfl, hx1⟩; have hc1 := hx1.cells; have hz1 := hx1.size; (try simp at hz1); have hb1_0 : w.heap.size < w1.heap.size := (by omega); have hb1_1 : w.heap.size + 1 < w1.heap.size := (by omega)))
    | (go_at_call 26; ((with_reducible refine (HCB.out _ (by repeat (first | (with_reducible exact ext_refl _) | (with_reducible assumption) | (with_reducible refine ext_drew ?_) | (with_reducible refine ext_drewN ?_ _) | (with_reducible refine ext_alloc ?_ _) | (with_reducible refine ext_set ?_ (by first | omega | (simp <;> omega)) _) | (with_reducible refine ext_trans ?_ (by with_reducible assumption))))).mono ?_); rintro e w1 ⟨rfl, hx1⟩; have hc1 := hx1.cells; have hz1 := hx1.size; (try simp at hz1); have hb1_0 : w.heap.size < w1.heap.size := (by omega); have hb1_1 : w.heap.size + 1 < w1.heap.size := (by omega)))
    | (go_at_call 35; ((with_reducible refine (HOR.out _ (by repeat (first | (with_reducible exact ext_refl _) | (with_reducible assumption) | (with_reducible refine ext_drew ?_) | (with_reducible refine ext_drewN ?_ _) | (with_reducible refine ext_alloc ?_ _) | (with_reducible refine ext_set ?_ (by first | omega | (simp <;> omega)) _) | (with_reducible refine ext_trans ?_ (by with_reducible assumption))))).mono ?_); rintro e w1 ⟨rfl, hx1⟩; have hc1 := hx1.cells; have hz1 := hx1.size; (try simp at hz1); have hb1_0 : w.heap.size < w1.heap.size := (by omega); have hb1_1 : w.heap.size + 1 < w1.heap.size := (by omega)))
    | (go_at_call 78; ((with_reducible refine (HSP.out _ (by repeat (first | (with_reducible exact ext_refl _) | (with_reducible assumption) | (with_reducible refine ext_drew ?_) | (with_reducible refine ext_drewN ?_ _) | (with_reducible refine ext_alloc ?_ _) | (with_reducible refine ext_set ?_ (by first | omega | (simp <;> omega)) _) | (with_reducible refine ext_trans ?_ (by with_reducible assumption))))).mono ?_); rintro e w1 ⟨rfl, hx1⟩; have hc1 := hx1.cells; have hz1 := hx1.size; (try simp at hz1); have hb1_0 : w.heap.size < w1.heap.size := (by omega); have hb1_1 : w.heap.size + 1 < w1.heap.size := (by omega)))
    | (go_at_call 61; refine (between_any _ _ _ _).mono ?_; rintro e w9 ⟨rfl, rfl⟩))
    all_goals go_ret
    all_goals refine ⟨ri ?_, (by repeat (first | (with_reducible exact ext_refl _) | (with_reducible assumption) | (with_reducible refine ext_drew ?_) | (with_reducible refine ext_drewN ?_ _) | (with_reducible refine ext_alloc ?_ _) | (with_reducible refine ext_set ?_ (by first | omega | (simp <;> omega)) _) | (with_reducible refine ext_trans ?_ (by with_reducible assumption))))⟩
    all_goals (rw [bE]; first | (simp [*]; done) | (simp [*] <;> omega))
  | true =>
    cases g2 : inB many 1 60 with
    | false =>
      clear hc hm
      go_enter Try.func37, Try.ntmps37
      go_wp2_with (first
    | (go_at_call 25; ((with_reducible refine (HNA.out _ (by repeat (first | (with_reducible exact ext_refl _) | (with_reducible assumption) | (with_reducible refine ext_drew ?_) | (with_reducible refine ext_drewN ?_ _) | (with_reducible refine ext_alloc ?_ _) | (with_reducible refine ext_set ?_ (by first | omega | (simp <;> omega)) _) | (with_reducible refine ext_trans ?_ (by with_reducible assumption))))).mono ?_); rintro e w1 ⟨rfl, hx1⟩; have hc1 := hx1.cells; have hz1 := hx1.size; (try simp at hz1); have hb1_0 : w.heap.size < w1.heap.size := (by omega); have hb1_1 : w.heap.size + 1 < w1.heap.size := (by omega)))
    | (go_at_call 25; ((with_reducible refine (HNB.out _ (by repeat (first | (with_reducible exact ext_refl _) | (with_reducible assumption) | (with_reducible refine ext_drew ?_) | (with_reducible refine ext_drewN ?_ _) | (with_reducible refine ext_alloc ?_ _) | (with_reducible refine ext_set ?_ (by first | omega | (simp <;> omega)) _) | (with_reducible refine ext_trans ?_ (by with_reducible assumption))))).mono ?_); rintro e w1 ⟨rfl, hx1⟩; have hc1 := hx1.cells; have hz1 := hx1.size; (try simp at hz1); have hb1_0 : w.heap.size < w1.heap.size := (by omega); have hb1_1 : w.heap.size + 1 < w1.heap.size := (by omega)))
    | (go_at_call 26; ((with_reducible refine (HCA.out _ (by repeat (first | (with_reducible exact ext_refl _) | (with_reducible assumption) | (with_reducible refine ext_drew ?_) | (with_reducible refine ext_drewN ?_ _) | (with_reducible refine ext_alloc ?_ _) | (with_reducible refine ext_set ?_ (by first | omega | (simp <;> omega)) _) | (with_reducible refine ext_trans ?_ (by with_reducible assumption))))).mono ?_); rintro e w1 ⟨rfl, hx1⟩; have hc1 := hx1.cells; have hz1 := hx1.size; (try simp at hz1); have hb1_0 : w.heap.size < w1.heap.size := (by omega); have hb1_1 : w.heap.size + 1 < w1.heap.size := (by omega)))
    | (go_at_call 26; ((with_reducible refine (HCB.out _ (by repeat (first | (with_reducible exact ext_refl _) | (with_reducible assumption) | (with_reducible refine ext_drew ?_) | (with_reducible refine ext_drewN ?_ _) | (with_reducible refine ext_alloc ?_ _) | (with_reducible refine ext_set ?_ (by first | omega | (simp <;> omega)) _) | (with_reducible refine ext_trans ?_ (by with_reducible assumption))))).mono ?_); rintro e w1 ⟨rfl, hx1⟩; have hc1 := hx1.cells; have hz1 := hx1.size; (try simp at hz1); have hb1_0 : w.heap.size < w1.heap.size := (by omega); have hb1_1 : w.heap.size + 1 < w1.heap.size := (by omega)))
    | (go_at_call 35; ((with_reducible refine (HOR.out _ (by repeat (first | (with_reducible exact ext_refl _) | (with_reducible assumption) | (with_reducible refine ext_drew ?_) | (with_reducible refine ext_drewN ?_ _) | (with_reducible refine ext_alloc ?_ _) | (with_reducible refine ext_set ?_ (by first | omega | (simp <;> omega)) _) | (with_reducible refine ext_trans ?_ (by with_reducible assumption))))).mono ?_); rintro e w1 ⟨rfl, hx1⟩; have hc1 := hx1.cells; have hz1 := hx1.size; (try simp at hz1); have hb1_0 : w.heap.size < w1.heap.size := (by omega); have hb1_1 : w.heap.size + 1 < w1.heap.size := (by omega)))
    | (go_at_call 78; ((with_reducible refine (HSP.out _ (by repeat (first | (with_reducible exact ext_refl _) | (with_reducible assumption) | (with_reducible refine ext_drew ?_) | (with_reducible refine ext_drewN ?_ _) | (with_reducible refine ext_alloc ?_ _) | (with_reducible refine ext_set ?_ (by first | omega | (simp <;> omega)) _) | (with_reducible refine ext_trans ?_ (by with_reducible assumption))))).mono ?_); rintro e w1 ⟨rfl, hx1⟩; have hc1 := hx1.cells; have hz1 := hx1.size; (try simp at hz1); have hb1_0 : w.heap.size < w1.heap.size := (by omega); have hb1_1 : w.heap.size + 1 < w1.heap.size := (by omega)))
    | (go_at_call 61; refine (between_any _ _ _ _).mono ?_; rintro e w9 ⟨rfl, rfl⟩))
      all_goals go_ret
      all_goals refine ⟨ri ?_, (by repeat (first | (with_reducible exact ext_refl _) | (with_reducible assumption) | (with_reducible refine ext_drew ?_) | (with_reducible refine ext_drewN ?_ _) | (with_reducible refine ext_alloc ?_ _) | (with_reducible refine ext_set ?_ (by first | omega | (simp <;> omega)) _) | (with_reducible refine ext_trans ?_ (by with_reducible assumption))))⟩
      all_goals (rw [bE]; first | (simp [*]; done) | (simp [*] <;> omega))
    | true =>
      have hb1 : 1 ≤ clock ∧ clock ≤ 10000 := by unfold inB at g1; simpa using g1
      have hb2 : 1 ≤ many ∧ many ≤ 60 := by unfold inB at g2; simpa using g2
      obtain ⟨b1, b2⟩ := hb1
      obtain ⟨b3, b4⟩ := hb2
      clear hc hm
      go_enter Try.func37, Try.ntmps37
      go_wp2_with (first
    | (go_at_call 25; ((with_reducible refine (HNA.out _ (by repeat (first | (with_reducible exact ext_refl _) | (with_reducible assumption) | (with_reducible refine ext_drew ?_) | (with_reducible refine ext_drewN ?_ _) | (with_reducible refine ext_alloc ?_ _) | (with_reducible refine ext_set ?_ (by first | omega | (simp <;> omega)) _) | (with_reducible refine ext_trans ?_ (by with_reducible assumption))))).mono ?_); rintro e w1 ⟨rfl, hx1⟩; have hc1 := hx1.cells; have hz1 := hx1.size; (try simp at hz1); have hb1_0 : w.heap.size < w1.heap.size := (by omega); have hb1_1 : w.heap.size + 1 < w1.heap.size := (by omega)))
    | (go_at_call 25; ((with_reducible refine (HNB.out _ (by repeat (first | (with_reducible exact ext_refl _) | (with_reducible assumption) | (with_reducible refine ext_drew ?_) | (with_reducible refine ext_drewN ?_ _) | (with_reducible refine ext_alloc ?_ _) | (with_reducible refine ext_set ?_ (by first | omega | (simp <;> omega)) _) | (with_reducible refine ext_trans ?_ (by with_reducible assumption))))).mono ?_); rintro e w1 ⟨rfl, hx1⟩; have hc1 := hx1.cells; have hz1 := hx1.size; (try simp at hz1); have hb1_0 : w.heap.size < w1.heap.size := (by omega); have hb1_1 : w.heap.size + 1 < w1.heap.size := (by omega)))
    | (go_at_call 26; ((with_reducible refine (HCA.out _ (by repeat (first | (with_reducible exact ext_refl _) | (with_reducible assumption) | (with_reducible refine ext_drew ?_) | (with_reducible refine ext_drewN ?_ _) | (with_reducible refine ext_alloc ?_ _) | (with_reducible refine ext_set ?_ (by first | omega | (simp <;> omega)) _) | (with_reducible refine ext_trans ?_ (by with_reducible assumption))))).mono ?_); rintro e w1 ⟨rfl, hx1⟩; have hc1 := hx1.cells; have hz1 := hx1.size; (try simp at hz1); have hb1_0 : w.heap.size < w1.heap.size := (by omega); have hb1_1 : w.heap.size + 1 < w1.heap.size := (by omega)))
    | (go_at_call 26; ((with_reducible refine (HCB.out _ (by repeat (first | (with_reducible exact ext_refl _) | (with_reducible assumption) | (with_reducible refine ext_drew ?_) | (with_reducible refine ext_drewN ?_ _) | (with_reducible refine ext_alloc ?_ _) | (with_reducible refine ext_set ?_ (by first | omega | (simp <;> omega)) _) | (with_reducible refine ext_trans ?_ (by with_reducible assumption))))).mono ?_); rintro e w1 ⟨rfl, hx1⟩; have hc1 := hx1.cells; have hz1 := hx1.size; (try simp at hz1); have hb1_0 : w.heap.size < w1.heap.size := (by omega); have hb1_1 : w.heap.size + 1 < w1.heap.size := (by omega)))
    | (go_at_call 35; ((with_reducible refine (HOR.out _ (by repeat (first | (with_reducible exact ext_refl _) | (with_reducible assumption) | (with_reducible refine ext_drew ?_) | (with_reducible refine ext_drewN ?_ _) | (with_reducible refine ext_alloc ?_ _) | (with_reducible refine ext_set ?_ (by first | omega | (simp <;> omega)) _) | (with_reducible refine ext_trans ?_ (by with_reducible assumption))))).mono ?_); rintro e w1 ⟨rfl, hx1⟩; have hc1 := hx1.cells; have hz1 := hx1.size; (try simp at hz1); have hb1_0 : w.heap.size < w1.heap.size := (by omega); have hb1_1 : w.heap.size + 1 < w1.heap.size := (by omega)))
    | (go_at_call 78; ((with_reducible refine (HSP.out _ (by repeat (first | (with_reducible exact ext_refl _) | (with_reducible assumption) | (with_reducible refine ext_drew ?_) | (with_reducible refine ext_drewN ?_ _) | (with_reducible refine ext_alloc ?_ _) | (with_reducible refine ext_set ?_ (by first | omega | (simp <;> omega)) _) | (with_reducible refine ext_trans ?_ (by with_reducible assumption))))).mono ?_); rintro e w1 ⟨rfl, hx1⟩; have hc1 := hx1.cells; have hz1 := hx1.size; (try simp at hz1); have hb1_0 : w.heap.size < w1.heap.size := (by omega); have hb1_1 : w.heap.size + 1 < w1.heap.size := (by omega)))
    | (go_at_call 61; refine (between_any _ _ _ _).mono ?_; rintro e w9 ⟨rfl, rfl⟩))
      all_goals go_ret
      all_goals refine ⟨ri ?_, (by repeat (first | (with_reducible exact ext_refl _) | (with_reducible assumption) | (with_reducible refine ext_drew ?_) | (with_reducible refine ext_drewN ?_ _) | (with_reducible refine ext_alloc ?_ _) | (with_reducible refine ext_set ?_ (by first | omega | (simp <;> omega)) _) | (with_reducible refine ext_trans ?_ (by with_reducible assumption))))⟩
      all_goals (rw [bE]; first | (simp [*]; done) | (simp [*] <;> omega))
end Go.Proofs.Ythkhkbjkbpgaoaa
