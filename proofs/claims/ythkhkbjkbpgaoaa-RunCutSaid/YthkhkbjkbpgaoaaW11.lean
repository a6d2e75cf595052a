/- The gap between two paths: above, below. -/
import Derived.Test.YthkhkbjkbpgaoaaW7
import Derived.Test.YthkhkbjkbpgaoaaPBetween
import Derived.IntWalk
set_option linter.unusedVariables false
set_option linter.unusedSimpArgs false
namespace Go.Proofs.Ythkhkbjkbpgaoaa
open Go Go.RowKit Cp

/-- a gap -/
def IsGap (F : Nat → Prop) (g : Gap) (w : World) (e : Ending) (w' : World) : Prop := ∃ v, e = .returned (.agg #[v, .int .i64 g.least, .int .i64 g.most]) ∧ RSl RStp 2 (fun k => F k ∨ w.heap.size ≤ k) w' v g.path ∧ Ext w w'
theorem rsl_take {α : Type} {R : Rd α} {sz F w a n c} {l : List α} (h : RSl R sz F w (.slice a n c) l) {k : Nat} (hk : k ≤ l.length) : RSl R sz F w (.slice a k c) (l.take k) := by
  obtain ⟨a', cap', e, h1, h2, h3⟩ := h
  injection e with e1 e2 e3
  subst e1; subst e2; subst e3
  have hkl : (l.take k).length = k := by rw [List.length_take]; omega
  refine ⟨_, _, by rw [hkl], by omega, h2, fun hne => ?_⟩
  obtain ⟨b, o, e2, hF, hl, hx⟩ := h3 (by rintro rfl; simp at hne)
  refine ⟨b, o, e2, hF, hl, fun i x hi => hx i x ?_⟩
  by_cases hik : i < k
  · rwa [List.getElem?_take_of_lt hik] at hi
  · rw [List.getElem?_eq_none (by omega)] at hi; cases hi
theorem RSl.anyF {sz w v B} {F : Nat → Prop} {l : List Stp} (h : RSl RStp sz F w v l) : RSl RStp sz (fun k => (F k ∧ k < w.heap.size) ∨ B ≤ k) w v l := h.more gStp (fun _ hk hl => .inl ⟨hk, hl⟩)
theorem above_drop {l : List Stp} {k : Nat} {x y : Int} (h : l[k]? = some (x, y)) : aboveL (l.take k) (l.drop k) = if x < 200 then ⟨l.take k, x + 1, 200⟩ else aboveL (l.take (k + 1)) (l.drop (k + 1)) := by
  obtain ⟨a1, b1⟩ := List.getElem?_eq_some_iff.1 h
  rw [List.drop_eq_getElem_cons a1, List.take_succ_eq_append_getElem a1, b1]; rfl
theorem above_end {l : List Stp} {k : Nat} (h : k = l.length) : aboveL (l.take k) (l.drop k) = ⟨l, 1, 200⟩ := by
  subst h; rw [List.drop_eq_nil_of_le (Nat.le_refl _), List.take_of_length_le (Nat.le_refl _)]; rfl
theorem below_drop {l : List Stp} {k : Nat} {x y site : Int} (h : l[k]? = some (x, y)) : belowL site (l.take k) (l.drop k) = if 1 < x then ⟨l.take k, 1, x - 1⟩ else if x = 1 then ⟨l.take k ++ [(0, site)], 1, 200⟩ else belowL site (l.take (k + 1)) (l.drop (k + 1)) := by
  obtain ⟨a1, b1⟩ := List.getElem?_eq_some_iff.1 h
  rw [List.drop_eq_getElem_cons a1, List.take_succ_eq_append_getElem a1, b1]; rfl

set_option maxRecDepth 100000 in
set_option maxHeartbeats 800000 in
theorem above_any {F : Nat → Prop} {w : World} {v : Value} {l : List Stp} {k0 : Nat} (h : RSl RStp 2 F w v l) (hk0 : k0 ≤ l.length) (hok : ∀ s ∈ l, 0 ≤ s.1 ∧ s.1 ≤ 200) :
    Calls Try.prog 93 #[v, .int .i64 k0] w (IsGap (fun k => F k ∧ k < w.heap.size) (aboveL (l.take k0) (l.drop k0)) w) := by
  obtain ⟨a1, n1, c1, rfl⟩ := h.slice
  obtain ⟨rfl, k1, k1'⟩ := h.len
  unfold maxLen at k1'
  have q1 : l.length ≤ 9223372036854775807 := by omega
  have q2 : c1 ≤ 9223372036854775807 := by omega
  have q3 : k0 ≤ 9223372036854775807 := by omega
  clear k1'
  have HL := Lib.hid h
  have HOK := Lib.hid hok
  clear h hok
  go_enter Try.func93, Try.ntmps93
  go_wp2
  go_loopw [5] (fun i wr => ∃ k : Nat, k ≤ l.length ∧ i = .int .i64 k ∧ Hid (aboveL (l.take k0) (l.drop k0) = aboveL (l.take k) (l.drop k)) ∧ Ext (w.alloc (.cells #[.slice none 0 0, .int .i64 0, .int .i64 0] 108)) wr) (fun i _ => l.length - (intOf i).toNat)
  case atStart => exact ⟨k0, by omega, rfl, Lib.hid rfl, ext_refl _⟩
  case round =>
    obtain ⟨k, hk1, rfl, ho, hx⟩ := hrel
    have HW := Lib.hid (ext_trans (ext_alloc (ext_refl _) _) hx)
    have r0 := (hx.cells w.heap.size 0 (by simp <;> omega)).trans (show _ = some (.slice none 0 0) by go_simp)
    have r1 := (hx.cells w.heap.size 1 (by simp <;> omega)).trans (show _ = some (.int .i64 0) by go_simp)
    have r2 := (hx.cells w.heap.size 2 (by simp <;> omega)).trans (show _ = some (.int .i64 0) by go_simp)
    have f0 := (hx.frz w.heap.size 0 (by simp <;> omega)).trans (show _ = false by go_simp)
    have f1 := (hx.frz w.heap.size 1 (by simp <;> omega)).trans (show _ = false by go_simp)
    have f2 := (hx.frz w.heap.size 2 (by simp <;> omega)).trans (show _ = false by go_simp)
    have HX := Lib.hid hx
    clear hx
    by_cases h1 : k < l.length
    · obtain ⟨b1, o1, x1, y1, rfl, hb1, e1, _, _, ca, cb⟩ := stp_at (RSl.ext gStp HL.out HW.out) h1
      have HA := Lib.hid (above_drop e1)
      obtain ⟨d1, d2⟩ := HOK.out _ (List.mem_of_getElem? e1)
      simp only at d1 d2
      clear e1 hb1
      have kc : k ≤ c1 := by omega
      by_cases h2 : x1 < 200
      · have HG := Lib.hid (show aboveL (l.take k0) (l.drop k0) = ⟨l.take k, x1 + 1, 200⟩ by rw [ho.out, HA.out, if_pos h2])
        have hwr : IntKind.i64.wrap (x1 + 1) = x1 + 1 := IntWalk.i64_in _ (by omega)
        go_wp2
        refine still_tail 10 fol (by kernel_rfl) ?_
        simp only [List.take_succ_cons, List.take_zero, List.drop_succ_cons, List.drop_zero]
        repeat still_step
        refine wpStill_nil ?_
        go_wp2
        refine bodyPost_ret (v := .agg #[.slice (some ⟨b1, o1, none⟩) k c1, .int .i64 (x1 + 1), .int .i64 200]) (by simp [results, Try.results93, go_sem, r0, r1, r2]) rfl ⟨.slice (some ⟨b1, o1, none⟩) k c1, by rw [HG.out], ?_, (by repeat (first | (with_reducible exact ext_refl _) | (with_reducible refine ext_drew ?_) | (with_reducible refine ext_drewN ?_ _) | (with_reducible refine ext_alloc ?_ _) | (with_reducible refine ext_set ?_ (by first | omega | (simp <;> omega)) _) | (with_reducible refine ext_call ?_ HW.out)))⟩
        rw [HG.out]
        exact rsl_take ((RSl.anyF HL.out).ext gStp (by repeat (first | (with_reducible exact ext_refl _) | (with_reducible refine ext_drew ?_) | (with_reducible refine ext_drewN ?_ _) | (with_reducible refine ext_alloc ?_ _) | (with_reducible refine ext_set ?_ (by first | omega | (simp <;> omega)) _) | (with_reducible refine ext_call ?_ HW.out)))) (by omega)
      · have HG := Lib.hid (show aboveL (l.take k0) (l.drop k0) = aboveL (l.take (k + 1)) (l.drop (k + 1)) by rw [ho.out, HA.out, if_neg h2])
        go_wp2
        go_roundw
        case rel => exact ⟨k + 1, by omega, by go_num, HG, HX.out⟩
        case measure => simp [intOf]; omega
    · have HG := Lib.hid (ho.out.trans (above_end (by omega)))
      go_wp2
      refine bodyPost_ret (v := .agg #[.slice a1 l.length c1, .int .i64 1, .int .i64 200]) (by simp [results, Try.results93, go_sem, r0, r1, r2]) rfl ⟨.slice a1 l.length c1, by rw [HG.out], ?_, (by repeat (first | (with_reducible exact ext_refl _) | (with_reducible refine ext_drew ?_) | (with_reducible refine ext_drewN ?_ _) | (with_reducible refine ext_alloc ?_ _) | (with_reducible refine ext_set ?_ (by first | omega | (simp <;> omega)) _) | (with_reducible refine ext_call ?_ HW.out)))⟩
      rw [HG.out]
      exact (RSl.anyF HL.out).ext gStp (by repeat (first | (with_reducible exact ext_refl _) | (with_reducible refine ext_drew ?_) | (with_reducible refine ext_drewN ?_ _) | (with_reducible refine ext_alloc ?_ _) | (with_reducible refine ext_set ?_ (by first | omega | (simp <;> omega)) _) | (with_reducible refine ext_call ?_ HW.out)))
end Go.Proofs.Ythkhkbjkbpgaoaa
