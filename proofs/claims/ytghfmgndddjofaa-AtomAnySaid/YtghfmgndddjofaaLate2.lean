/- A region that draws its order, whose operations read and whose last ones write: the reads by the cheap step. -/
import Derived.Test.YtghfmgndddjofaaLate
import Derived.StillTailTactics
set_option linter.unusedVariables false
set_option linter.unusedSimpArgs false
namespace Cp
open Go Go.RowKit

theorem still_of_one {P : Program} {o : Oper} {a : Act} {w : World} {K : Act → Prop} (h : o.quiet P a (fun W => W = w) K) : o.still P a w K := by
  obtain ⟨v, h1, h2⟩ := h
  have h3 := h1 w rfl
  unfold Oper.quietAt at h3
  unfold Oper.still
  generalize (execOp a.eval o).run P w = r at h3 ⊢
  cases r with
  | halt x w' => exact h3.elim
  | ok n w' =>
    cases n with
    | value u => exact ⟨h3.1, by rw [h3.2]; exact h2⟩
    | skip => exact ⟨h3.1, by rw [← h3.2]; exact h2⟩
    | enter f args => exact ⟨h3.1, v, h3.2, h2⟩
    | _ => exact h3.elim
theorem still_of_quiet {P : Program} {ops : Array Oper} {w : World} {Q : Act → Prop} : ∀ {l : List Oper} {a : Act}, wpQuiet P ops (fun W => W = w) Q l a → wpStill P ops w Q l a
  | [], _, h => h
  | o :: l, a, h => by
    unfold wpQuiet at h
    unfold wpStill
    by_cases hw : Region.wanted o (yielded ops a.tmps) = true
    · rw [if_pos hw] at h ⊢
      obtain ⟨v, h1, h2⟩ := h
      exact still_of_one ⟨v, h1, still_of_quiet h2⟩
    · rw [if_neg hw] at h ⊢
      exact still_of_quiet h
/-- reads (and calls that leave the world alone) ahead of a forced tail -/
theorem wp_region_tail {P : Program} {id : Nat} {Q : Exit → Act → World → Prop} {a : Act} {w : World} {l : List Oper} (n : Nat) (hm : P.follows .mixedOrders = true) (hB : Region.lexTailB .any l.toArray n = true)
    (h : ∀ W, W = w.drew → wpQuiet P l.toArray (fun W' => W' = W) (fun a' => wpList P l.toArray Q (l.drop n) a' W) (l.take n) a) : (Code.region id l.toArray true).wp P Q a w :=
  still_tail n hm hB (still_of_quiet (h _ rfl))
end Cp
