/- A mark of one step. -/
import Derived.Test.YtghfmgndddjofaaOwn
import Derived.Test.YtghfmgndddjofaaW1
set_option linter.unusedVariables false
set_option linter.unusedSimpArgs false
namespace Go.Proofs.Ytghfmgndddjofaa
open Go Go.RowKit Cp

theorem row1' {W : World} {r : Nat} {x y : Int} (h0 : W.cell? ⟨r, 0, none⟩ = some (.int .i64 x)) (h1 : W.cell? ⟨r, 1, none⟩ = some (.int .i64 y)) (ix : I64 x) (iy : I64 y) (hr : r < W.heap.size) :
    RSl RStp 2 (fun k => k = r) W (.slice (some ⟨r, 0, none⟩) 1 1) [(x, y)] :=
  rsl_of_range (rangeAt2 h0 h1) (chunks_one rfl ⟨rfl, ix, iy⟩) rfl hr (Nat.le_refl _) (by unfold maxLen; omega)
/-- a mark in new memory, as read -/
def IsNewMark (m : Mk) (w : World) (e : Ending) (w' : World) : Prop := ∃ cs, e = .returned (.agg cs.toArray) ∧ RMk (fun k => w.heap.size ≤ k) w' cs m ∧ Ext w w'

theorem at_any (d s c : Int) (hd : I64 d) (hs : I64 s) (hc : I64 c) (w : World) :
    Calls Try.prog 94 #[.int .i64 d, .int .i64 s, .int .i64 c] w (IsNewMark ([(d, s)], c) w) := by
  go_enter Try.func94, Try.ntmps94
  go_wp2_with fail
  refine bodyPost_end (v := .agg #[.slice (some ⟨w.heap.size + 1, 0, none⟩) 1 1, .int .i64 c]) (by simp [results, Try.results94, go_sem]) rfl ⟨[.slice (some ⟨w.heap.size + 1, 0, none⟩) 1 1, .int .i64 c], rfl, ⟨_, rfl, RSl.more gStp (fun k hk _ => by omega) (row1' (by go_simp) (by go_simp) hd hs (by simp)), hc⟩, (by repeat (first | (with_reducible exact ext_refl _) | (with_reducible refine ext_drew ?_) | (with_reducible refine ext_drewN ?_ _) | (with_reducible refine ext_alloc ?_ _) | (with_reducible refine ext_set ?_ (by first | omega | (simp <;> omega)) _)))⟩
end Go.Proofs.Ytghfmgndddjofaa
