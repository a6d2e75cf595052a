/- The smallest functions: numbers alone. -/
import Derived.Test.YthkhkbjkbpgaoaaRows
import Derived.Test.YthkhkbjkbpgaoaaLib
set_option linter.unusedVariables false
set_option linter.unusedSimpArgs false
namespace Go.Proofs.Ythkhkbjkbpgaoaa
open Go Go.RowKit Cp

theorem fol : Try.prog.follows .mixedOrders = true := by kernel_rfl
/-- 'from .. to' as a bool -/
def inB (n a b : Int) : Bool := decide (a ≤ n) && decide (n ≤ b)
theorem inB_no {n a b : Int} (h : n < a) : false = inB n a b := by unfold inB; rw [decide_eq_false (by omega)]; rfl
theorem inB_yes {n a b : Int} (h : a ≤ n) : decide (n ≤ b) = inB n a b := by unfold inB; rw [decide_eq_true h]; rfl
theorem cmpI_no {a b : Int} (h : b ≤ a) (k : a ≤ b) : 0 = cmpI a b := by unfold cmpI; rw [if_neg (by omega), if_neg (by omega)]
theorem cmpI_gt {a b : Int} (h : b < a) : 1 = cmpI a b := by unfold cmpI; rw [if_neg (by omega), if_pos h]
theorem cmpI_less {a b : Int} (h : a < b) : -1 = cmpI a b := by unfold cmpI; rw [if_pos h]

theorem within_any (n a b : Int) (w : World) : Calls Try.prog 68 #[.int .i64 n, .int .i64 a, .int .i64 b] w fun e w' => e = .returned (.bool (inB n a b)) ∧ w = w' := by
  go_enter Try.func68, Try.ntmps68
  go_wp2
  all_goals go_ret
  all_goals first | exact ⟨rb (inB_yes ‹_›), rfl⟩ | exact ⟨rb (inB_no ‹_›), rfl⟩
theorem between_any (n a b : Int) (w : World) : Calls Try.prog 61 #[.int .i64 n, .int .i64 a, .int .i64 b] w fun e w' => e = .returned (.bool (inB n a b)) ∧ w = w' := by
  go_enter Try.func61, Try.ntmps61
  go_wp2
  all_goals go_ret
  all_goals first | exact ⟨rb (inB_yes ‹_›), rfl⟩ | exact ⟨rb (inB_no ‹_›), rfl⟩
theorem number_any (a b : Int) (w : World) : Calls Try.prog 74 #[.int .i64 a, .int .i64 b] w fun e w' => e = .returned (.int .i64 (cmpI a b)) ∧ w = w' := by
  go_enter Try.func74, Try.ntmps74
  go_wp2
  all_goals go_ret
  all_goals first | exact ⟨ri (cmpI_less ‹_›), rfl⟩ | exact ⟨ri (cmpI_gt ‹_›), rfl⟩ | exact ⟨ri (cmpI_no ‹_› ‹_›), rfl⟩
theorem compare_any (a b : Int) (w : World) : Calls Try.prog 73 #[.int .i64 a, .int .i64 b] w fun e w' => e = .returned (.int .i64 (cmpI a b)) ∧ w = w' := by
  go_enter Try.func73, Try.ntmps73
  go_wp2
  all_goals go_ret
  all_goals first | exact ⟨ri (cmpI_less ‹_›), rfl⟩ | exact ⟨ri (cmpI_gt ‹_›), rfl⟩ | exact ⟨ri (cmpI_no ‹_› ‹_›), rfl⟩
theorem site_any (n : Int) (w : World) : Calls Try.prog 69 #[.int .i64 n] w fun e w' => e = .returned (.bool (inB n 0 4)) ∧ w = w' := by
  go_enter Try.func69, Try.ntmps69
  go_wp2_with (go_at_call 68; refine (within_any _ _ _ _).mono ?_; rintro e w' ⟨rfl, rfl⟩)
  go_ret
  exact ⟨rfl, rfl⟩
end Go.Proofs.Ythkhkbjkbpgaoaa
