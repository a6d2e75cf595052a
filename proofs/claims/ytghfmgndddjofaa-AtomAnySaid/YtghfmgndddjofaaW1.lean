/- The smallest functions: numbers alone. -/
import Derived.Test.YtghfmgndddjofaaRows
import Derived.Test.YtghfmgndddjofaaLib
set_option linter.unusedVariables false
set_option linter.unusedSimpArgs false
namespace Go.Proofs.Ytghfmgndddjofaa
open Go Go.RowKit Cp

theorem fol : Try.prog.follows .mixedOrders = true := by kernel_rfl
/-- 'from .. to' as a bool -/
def inB (n a b : Int) : Bool := decide (a ≤ n) && decide (n ≤ b)
theorem inB_no {n a b : Int} (h : n < a) : false = inB n a b := by unfold inB; rw [decide_eq_false (by omega)]; rfl
theorem inB_yes {n a b : Int} (h : a ≤ n) : decide (n ≤ b) = inB n a b := by unfold inB; rw [decide_eq_true h]; rfl
theorem cmpI_no {a b : Int} (h : b ≤ a) (k : a ≤ b) : 0 = cmpI a b := by unfold cmpI; rw [if_neg (by omega), if_neg (by omega)]
theorem cmpI_gt {a b : Int} (h : b < a) : 1 = cmpI a b := by unfold cmpI; rw [if_neg (by omega), if_pos h]
theorem cmpI_less {a b : Int} (h : a < b) : -1 = cmpI a b := by unfold cmpI; rw [if_pos h]

theorem within_any (n a b : Int) (w : World) : Calls Try.prog 110 #[.int .i64 n, .int .i64 a, .int .i64 b] w fun e w' => e = .returned (.bool (inB n a b)) ∧ w = w' := by
  go_enter Try.func110, Try.ntmps110
  go_wp2
  all_goals go_ret
  all_goals first | exact ⟨rb (inB_yes ‹_›), rfl⟩ | exact ⟨rb (inB_no ‹_›), rfl⟩
theorem between_any (n a b : Int) (w : World) : Calls Try.prog 54 #[.int .i64 n, .int .i64 a, .int .i64 b] w fun e w' => e = .returned (.bool (inB n a b)) ∧ w = w' := by
  go_enter Try.func54, Try.ntmps54
  go_wp2
  all_goals go_ret
  all_goals first | exact ⟨rb (inB_yes ‹_›), rfl⟩ | exact ⟨rb (inB_no ‹_›), rfl⟩
theorem number_any (a b : Int) (w : World) : Calls Try.prog 128 #[.int .i64 a, .int .i64 b] w fun e w' => e = .returned (.int .i64 (cmpI a b)) ∧ w = w' := by
  go_enter Try.func128, Try.ntmps128
  go_wp2
  all_goals go_ret
  all_goals first | exact ⟨ri (cmpI_less ‹_›), rfl⟩ | exact ⟨ri (cmpI_gt ‹_›), rfl⟩ | exact ⟨ri (cmpI_no ‹_› ‹_›), rfl⟩
theorem compare_any (a b : Int) (w : World) : Calls Try.prog 125 #[.int .i64 a, .int .i64 b] w fun e w' => e = .returned (.int .i64 (cmpI a b)) ∧ w = w' := by
  go_enter Try.func125, Try.ntmps125
  go_wp2
  all_goals go_ret
  all_goals first | exact ⟨ri (cmpI_less ‹_›), rfl⟩ | exact ⟨ri (cmpI_gt ‹_›), rfl⟩ | exact ⟨ri (cmpI_no ‹_› ‹_›), rfl⟩
theorem site_any (n : Int) (w : World) : Calls Try.prog 73 #[.int .i64 n] w fun e w' => e = .returned (.bool (inB n 0 4)) ∧ w = w' := by
  go_enter Try.func73, Try.ntmps73
  go_wp2_with (go_at_call 110; refine (within_any _ _ _ _).mono ?_; rintro e w' ⟨rfl, rfl⟩)
  go_ret
  exact ⟨rfl, rfl⟩
end Go.Proofs.Ytghfmgndddjofaa
