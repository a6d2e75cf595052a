/- run.Runs, by the program. -/
import Derived.Test.YthkhkbjkbpgaoaaB7
import Derived.Test.YthkhkbjkbpgaoaaA2
set_option linter.unusedVariables false
set_option linter.unusedSimpArgs false
namespace Go.Proofs.Ythkhkbjkbpgaoaa
open Go Go.RowKit Go.BigFrame Cp

def IsRunsE (l : List Rn) (er : Int) (w : World) (e : Ending) (w' : World) : Prop := ∃ v, e = .returned (.tuple #[v, .int .i64 er]) ∧ RSl RRn 3 (fun k => w.heap.size ≤ k) w' v l ∧ Ext w w'
set_option maxRecDepth 100000 in
set_option maxHeartbeats 4000000 in
theorem runRuns_any {F : Nat → Prop} {w : World} {v : Value} {l : List At} (h : RSl RAt 3 F w v l) :
    Calls Try.prog 40 #[v] w (IsRunsE (if checkA l = 0 then runsA l else []) (checkA l) w) := by
  have HC := Lib.hid (fun (W : World) (hx : Ext w W) => checkAtomsP_any (h.ext gAt hx))
  have HO := Lib.hid (fun (hc : checkA l = 0) (W : World) (hx : Ext w W) => runOf_any (h.ext gAt hx) hc)
  obtain ⟨a0, n0, c0, rfl⟩ := h.slice
  clear h
  by_cases h0 : checkA l = 0
  · rw [if_pos h0, h0]
    rw [h0] at HC
    have HP := Lib.hid (HO.out h0)
    clear HO h0
    go_enter Try.func40, Try.ntmps40
    go_wp2_with (first
      | (go_at_call 80; go_must ((with_reducible refine (HC.out _ (by repeat (first | (with_reducible exact ext_refl _) | (with_reducible assumption) | (with_reducible refine ext_drew ?_) | (with_reducible refine ext_drewN ?_ _) | (with_reducible refine ext_alloc ?_ _) | (with_reducible refine ext_set ?_ (by first | omega | (simp <;> omega)) _) | (with_reducible refine ext_trans ?_ (by with_reducible assumption))))).mono ?_); rintro e w1 ⟨rfl, hx1⟩))
      | (go_at_call 81; go_must ((with_reducible refine (HP.out _ (by repeat (first | (with_reducible exact ext_refl _) | (with_reducible assumption) | (with_reducible refine ext_drew ?_) | (with_reducible refine ext_drewN ?_ _) | (with_reducible refine ext_alloc ?_ _) | (with_reducible refine ext_set ?_ (by first | omega | (simp <;> omega)) _) | (with_reducible refine ext_trans ?_ (by with_reducible assumption))))).mono ?_); rintro e w2 ⟨v2, rfl, hv2, hx2⟩; have HV := Lib.hid hv2; have hz1 := hx1.size; obtain ⟨a2, n2, c2, rfl⟩ := hv2.slice; clear hv2)))
    refine bodyPost_ret (v := .tuple #[.slice a2 n2 c2, .int .i64 0]) (by simp [results, Try.results40, go_sem]) rfl ⟨_, rfl, RSl.more gRn (fun j hj _ => Nat.le_trans hz1 hj) HV.out, (by repeat (first | (with_reducible exact ext_refl _) | (with_reducible assumption) | (with_reducible refine ext_drew ?_) | (with_reducible refine ext_drewN ?_ _) | (with_reducible refine ext_alloc ?_ _) | (with_reducible refine ext_set ?_ (by first | omega | (simp <;> omega)) _) | (with_reducible refine ext_trans ?_ (by with_reducible assumption))))⟩
  · rw [if_neg h0]
    have t1 : (checkA l != 0) = true := by simpa using h0
    generalize checkA l = er at *
    clear h0 HO
    go_enter Try.func40, Try.ntmps40
    go_wp2_with (go_at_call 80; go_must ((with_reducible refine (HC.out _ (by repeat (first | (with_reducible exact ext_refl _) | (with_reducible assumption) | (with_reducible refine ext_drew ?_) | (with_reducible refine ext_drewN ?_ _) | (with_reducible refine ext_alloc ?_ _) | (with_reducible refine ext_set ?_ (by first | omega | (simp <;> omega)) _) | (with_reducible refine ext_trans ?_ (by with_reducible assumption))))).mono ?_); rintro e w1 ⟨rfl, hx1⟩))
    refine bodyPost_ret (v := .tuple #[.slice none 0 0, .int .i64 er]) (by simp [results, Try.results40, go_sem]) rfl ⟨_, rfl, RSl.nil_ (Nat.zero_le _), (by repeat (first | (with_reducible exact ext_refl _) | (with_reducible assumption) | (with_reducible refine ext_drew ?_) | (with_reducible refine ext_drewN ?_ _) | (with_reducible refine ext_alloc ?_ _) | (with_reducible refine ext_set ?_ (by first | omega | (simp <;> omega)) _) | (with_reducible refine ext_trans ?_ (by with_reducible assumption))))⟩
end Go.Proofs.Ythkhkbjkbpgaoaa
