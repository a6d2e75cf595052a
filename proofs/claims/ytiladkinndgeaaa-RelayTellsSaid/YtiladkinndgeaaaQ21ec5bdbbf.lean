/- A note; what must be in any case of what was seen. -/
import Derived.Test.YtiladkinndgeaaaQaa2bfaa6c0
import Derived.Test.YtiladkinndgeaaaQ442e0c3bf9
import Derived.Deep.OwnRows
set_option linter.unusedVariables false
set_option linter.unusedSimpArgs false
namespace Go.Proofs.Ytiladkinndgeaaa
open Go Go.RowKit Go.BigFrame Cp

/-- a note in new memory, as read -/
def IsNewNote (n : No) (w : World) (e : Ending) (w' : World) : Prop := ∃ v u, e = .returned (.agg #[.int .i64 n.site, .int .i64 n.number, v, u]) ∧ RNo (fun k => w.heap.size ≤ k) w' [.int .i64 n.site, .int .i64 n.number, v, u] n ∧ Ext w w'
theorem put_hi (w : World) : Calls Try.prog 57 #[.string ⟨#[104, 105]⟩] w (IsPutD ⟨#[104, 105]⟩ w) := putD_any ⟨#[104, 105]⟩ (by decide) w
theorem make_five (W : World) : (Instr.makeSlice 22 (.int .i64 5) (.int .i64 5)).run Try.prog W = .ok (.slice (some ⟨W.heap.size, 0, none⟩) 5 5) (W.alloc (.cells #[.int .i64 0, .int .i64 0, .int .i64 0, .int .i64 0, .int .i64 0] 3)) :=
  by
  have h := run_make_row' (P := Try.prog) 22 3 (.int .i64 0) 8 Try.underlying22 info_int rfl .i64 .i64 5 (by decide) (by decide) W
  have e : madeCells #[.int .i64 0] 5 = #[.int .i64 0, .int .i64 0, .int .i64 0, .int .i64 0, .int .i64 0] := by
    apply Array.ext'
    rw [toList_madeCells_one]; rfl
  rw [e] at h
  exact h
set_option maxRecDepth 100000 in
set_option maxHeartbeats 4000000 in
theorem note_any (w : World) : Calls Try.prog 38 #[] w (IsNewNote noteN w) := by
  have hmk := make_five
  go_enter Try.func38, Try.ntmps38
  go_wp2_with fail
  go_region_law (first
    | (go_simp; go_at_call 57; go_must ((with_reducible refine (put_hi _).mono ?_); rintro e w1 ⟨a1, c1, rfl, hd1, hx1⟩; have HD1 := Lib.hid hd1; clear hd1; have hz1 := hx1.size; (try simp at hz1); have hb1 : w.heap.size < w1.heap.size := (by omega); have r0 := (hx1.cells (w.heap.size) (0) (by first | omega | (simp <;> omega))).trans (show _ = some (.int .i64 0) by first | (with_reducible assumption) | go_simp); have r1 := (hx1.cells (w.heap.size) (1) (by first | omega | (simp <;> omega))).trans (show _ = some (.int .i64 0) by first | (with_reducible assumption) | go_simp); have r2 := (hx1.cells (w.heap.size) (2) (by first | omega | (simp <;> omega))).trans (show _ = some (.slice none 0 0) by first | (with_reducible assumption) | go_simp); have r3 := (hx1.cells (w.heap.size) (3) (by first | omega | (simp <;> omega))).trans (show _ = some (.slice none 0 0) by first | (with_reducible assumption) | go_simp); have rf0 := (hx1.frz (w.heap.size) (0) (by first | omega | (simp <;> omega))).trans (show _ = false by first | (with_reducible assumption) | go_simp); have rf1 := (hx1.frz (w.heap.size) (1) (by first | omega | (simp <;> omega))).trans (show _ = false by first | (with_reducible assumption) | go_simp); have rf2 := (hx1.frz (w.heap.size) (2) (by first | omega | (simp <;> omega))).trans (show _ = false by first | (with_reducible assumption) | go_simp); have rf3 := (hx1.frz (w.heap.size) (3) (by first | omega | (simp <;> omega))).trans (show _ = false by first | (with_reducible assumption) | go_simp); (try (refine with_fact' ((hx1.cells (w.heap.size + 1) 0 ?_).trans (?_ : _ = some (.int .i64 0))) (fun cr0 => ?_); (· simp); (· go_simp))); (try (refine with_fact' ((hx1.cells (w.heap.size + 1) 1 ?_).trans (?_ : _ = some (.int .i64 0))) (fun cr1 => ?_); (· simp); (· go_simp))); (try (refine with_fact' ((hx1.cells (w.heap.size + 1) 2 ?_).trans (?_ : _ = some (.int .i64 0))) (fun cr2 => ?_); (· simp); (· go_simp))); (try (refine with_fact' ((hx1.cells (w.heap.size + 1) 3 ?_).trans (?_ : _ = some (.int .i64 0))) (fun cr3 => ?_); (· simp); (· go_simp))); (try (refine with_fact' ((hx1.cells (w.heap.size + 1) 4 ?_).trans (?_ : _ = some (.int .i64 0))) (fun cr4 => ?_); (· simp); (· go_simp))))))
  all_goals go_wp2_with fail
  · have hb2 : w.heap.size + 1 < w1.heap.size := by omega
    have hn1 : ¬ w.heap.size + 1 = w1.heap.size := by omega
    (refine bodyPost_end (v := .agg #[.int .i64 0, .int .i64 1, .slice (some ⟨w.heap.size + 1, 0, none⟩) 5 5, .slice (some ⟨w1.heap.size, 0, none⟩) 1 1]) (by simp [results, Try.results38, go_sem, r0, r1, r2, r3, rf0, rf1, rf2, rf3, hb1]) rfl ⟨_, _, rfl, rno_of (s := 0) (k := 1) (l := [0, 0, 0, 0, 0]) (q := [putD [104, 105]]) (i64_small (by simp) (by simp)) (i64_small (by simp) (by simp)) (five_at (by go_simp) (by go_simp) (by go_simp) (by go_simp) (by go_simp) (by first | omega | (simp <;> omega)) (by first | omega | (simp <;> omega)) (Nat.le_refl _) (by unfold maxLen; omega) (by intro x hx; simp at hx; subst hx; exact (i64_small (by simp) (by simp)))) (rd_one rfl (rangeAt_cons (by go_simp) (rangeAt_cons (by go_simp) (rangeAt_cons (by go_simp) (rangeAt_cons (by go_simp) (rangeAt_cons (by go_simp) (rangeAt_cons (by go_simp) (rangeAt_cons (by go_simp) rangeAt_nil))))))) (gDe.more (fun k hk _ => (show w.heap.size ≤ k by first | omega | (simp at hk; omega))) (gDe.keep (by repeat (first | (with_reducible exact keeps_refl) | (with_reducible refine keeps_drew ?_) | (with_reducible refine keeps_alloc ?_ _) | (with_reducible refine keeps_set ?_ (by first | omega | (simp <;> omega)) _))) HD1.out)) (by first | omega | (simp <;> omega)) (by first | omega | (simp <;> omega)) (Nat.le_refl _) (by unfold maxLen; omega)), extA⟩)
  · (refine bodyPost_end (v := .agg #[.int .i64 0, .int .i64 1, .slice (some ⟨w1.heap.size, 0, none⟩) 5 5, .slice (some ⟨w1.heap.size + 1, 0, none⟩) 1 1]) (by simp [results, Try.results38, go_sem, r0, r1, r2, r3, rf0, rf1, rf2, rf3, hb1]) rfl ⟨_, _, rfl, rno_of (s := 0) (k := 1) (l := [0, 0, 0, 0, 0]) (q := [putD [104, 105]]) (i64_small (by simp) (by simp)) (i64_small (by simp) (by simp)) (five_at (by go_simp) (by go_simp) (by go_simp) (by go_simp) (by go_simp) (by first | omega | (simp <;> omega)) (by first | omega | (simp <;> omega)) (Nat.le_refl _) (by unfold maxLen; omega) (by intro x hx; simp at hx; subst hx; exact (i64_small (by simp) (by simp)))) (rd_one rfl (rangeAt_cons (by go_simp) (rangeAt_cons (by go_simp) (rangeAt_cons (by go_simp) (rangeAt_cons (by go_simp) (rangeAt_cons (by go_simp) (rangeAt_cons (by go_simp) (rangeAt_cons (by go_simp) rangeAt_nil))))))) (gDe.more (fun k hk _ => (show w.heap.size ≤ k by first | omega | (simp at hk; omega))) (gDe.keep (by repeat (first | (with_reducible exact keeps_refl) | (with_reducible refine keeps_drew ?_) | (with_reducible refine keeps_alloc ?_ _) | (with_reducible refine keeps_set ?_ (by first | omega | (simp <;> omega)) _))) HD1.out)) (by first | omega | (simp <;> omega)) (by first | omega | (simp <;> omega)) (Nat.le_refl _) (by unfold maxLen; omega)), extA⟩)
  · (refine bodyPost_end (v := .agg #[.int .i64 0, .int .i64 1, .slice (some ⟨w1.heap.size + 1, 0, none⟩) 5 5, .slice (some ⟨w1.heap.size, 0, none⟩) 1 1]) (by simp [results, Try.results38, go_sem, r0, r1, r2, r3, rf0, rf1, rf2, rf3, hb1]) rfl ⟨_, _, rfl, rno_of (s := 0) (k := 1) (l := [0, 0, 0, 0, 0]) (q := [putD [104, 105]]) (i64_small (by simp) (by simp)) (i64_small (by simp) (by simp)) (five_at (by go_simp) (by go_simp) (by go_simp) (by go_simp) (by go_simp) (by first | omega | (simp <;> omega)) (by first | omega | (simp <;> omega)) (Nat.le_refl _) (by unfold maxLen; omega) (by intro x hx; simp at hx; subst hx; exact (i64_small (by simp) (by simp)))) (rd_one rfl (rangeAt_cons (by go_simp) (rangeAt_cons (by go_simp) (rangeAt_cons (by go_simp) (rangeAt_cons (by go_simp) (rangeAt_cons (by go_simp) (rangeAt_cons (by go_simp) (rangeAt_cons (by go_simp) rangeAt_nil))))))) (gDe.more (fun k hk _ => (show w.heap.size ≤ k by first | omega | (simp at hk; omega))) (gDe.keep (by repeat (first | (with_reducible exact keeps_refl) | (with_reducible refine keeps_drew ?_) | (with_reducible refine keeps_alloc ?_ _) | (with_reducible refine keeps_set ?_ (by first | omega | (simp <;> omega)) _))) HD1.out)) (by first | omega | (simp <;> omega)) (by first | omega | (simp <;> omega)) (Nat.le_refl _) (by unfold maxLen; omega)), extA⟩)

def lB : List Int := [1, 0, 3, 0, 0]
def mB : List Int := [0, 2, 3, 0, 0]
def jB : List Int := [1, 2, 3, 0, 0]
def zB : List Int := [0, 0, 0, 0, 0]
section
variable {F G : Nat → Prop} {w : World} {v u : Value}
theorem noteN_ok : checkN noteN = 0 := by decide
theorem begun_sameI (h : RSl RInt 1 F w v jB) (k : RSl RInt 1 G w u jB) : Calls Try.prog 44 #[v, u] w fun e w' => e = .returned (.bool true) ∧ Ext w w' := by
  have h1 := sameInts_any h k
  rw [decide_eq_true rfl] at h1
  exact h1
end
end Go.Proofs.Ytiladkinndgeaaa
