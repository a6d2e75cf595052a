/- The order of two marks. -/
import Derived.Test.YtghfmgndddjofaaW2
set_option linter.unusedVariables false
set_option linter.unusedSimpArgs false
namespace Go.Proofs.Ytghfmgndddjofaa
open Go Go.RowKit Cp

theorem ordM_or (a b : Mk) : ordM a b = orI (ordP a.1 b.1) (cmpI a.2 b.2) := rfl
set_option maxRecDepth 100000 in
theorem order_any {F G : Nat → Prop} {w : World} {cs ds : List Value} {a b : Mk} (ha : RMk F w cs a) (hb : RMk G w ds b) :
    Calls Try.prog 86 #[.agg cs.toArray, .agg ds.toArray] w fun e w' => e = .returned (.int .i64 (ordM a b)) ∧ Ext w w' := by
  rw [ordM_or]
  obtain ⟨v, rfl, hl, _⟩ := ha
  obtain ⟨u, rfl, hm, _⟩ := hb
  obtain ⟨l, c⟩ := a
  obtain ⟨m, d⟩ := b
  simp only at hl hm ⊢
  obtain ⟨a1, n1, c1, rfl⟩ := hl.slice
  obtain ⟨a2, n2, c2, rfl⟩ := hm.slice
  have HL := Lib.hid hl
  have HM := Lib.hid hm
  clear hl hm
  go_enter Try.func86, Try.ntmps86
  go_wp2
  go_region_held3 (fun W => W.cell? ⟨w.heap.size, 0, none⟩ = some (.slice a1 n1 c1) ∧ W.cell? ⟨w.heap.size, 1, none⟩ = some (.int .i64 c) ∧ W.cell? ⟨w.heap.size + 1, 0, none⟩ = some (.slice a2 n2 c2) ∧ W.cell? ⟨w.heap.size + 1, 1, none⟩ = some (.int .i64 d))
    (first | go_keep | (refine ⟨?_, ?_, ?_, ?_⟩ <;> (rw [hx1.cells _ _ (by simp <;> omega)]; go_simp)))
    (first
      | (go_at_call 125; refine (compare_any _ _ _).mono ?_; rintro e w2 ⟨rfl, rfl⟩)
      | (go_at_call 123; refine (comparePaths_any (HL.out.ext gStp (ext_drew (ext_alloc (ext_alloc (ext_refl _) _) _))) (HM.out.ext gStp (ext_drew (ext_alloc (ext_alloc (ext_refl _) _) _)))).mono ?_; rintro e w1 ⟨rfl, hx1⟩)
      | (go_at_call 122; refine (or_any (ordP l m) (cmpI c d) _ _ (by go_simp) (by go_simp)).mono ?_; rintro e w2 ⟨rfl, rfl⟩))
  go_wp2
  go_ret
  exact ⟨rfl, by repeat (first | exact ext_refl _ | assumption | refine ext_drew ?_ | refine ext_alloc ?_ _ | refine ext_call ?_ hx1)⟩
end Go.Proofs.Ytghfmgndddjofaa
