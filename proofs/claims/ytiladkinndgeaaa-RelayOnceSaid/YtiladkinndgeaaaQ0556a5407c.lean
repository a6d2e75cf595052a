/- Who does deeds: a run is put. -/
import Derived.RangeFuncNested
import Derived.RangeFuncBound
import Derived.RangeFuncCalls
import Derived.RangeFuncLeaves
import Derived.Shelf.Abstract
import Derived.Shelf.RegionOpen
import Derived.WalkKit
import Derived.OwnWalkIn
import Derived.TacticsInMore
import Derived.LoopNIn
import Derived.LoopIn
import Derived.Test.YtiladkinndgeaaaQ6b0555978b
import Derived.Test.YtiladkinndgeaaaQ75505d345e
import Derived.Test.YtiladkinndgeaaaQb6f19c0561
import Derived.Deep.RegionLaw
import Derived.Test.YtiladkinndgeaaaQ7a04ac2d17
import Derived.Test.YtiladkinndgeaaaQf69f251b3b
import Derived.Test.YtiladkinndgeaaaQe4d63bfa69
set_option linter.unusedVariables false
set_option linter.unusedSimpArgs false
namespace Go.Proofs.Ytiladkinndgeaaa
open Go Go.RowKit Go.BigFrame Cp

attribute [local go_sem] Oper.semAt_some
end Go.Proofs.Ytiladkinndgeaaa
/- Who does deeds: a deed. -/
namespace Go.Proofs.Ytiladkinndgeaaa
open Go Go.RowKit Go.BigFrame Cp

end Go.Proofs.Ytiladkinndgeaaa
/- Deeds that are right, of a state that is. -/
namespace Go.Proofs.Ytiladkinndgeaaa
open Go Go.RowKit Go.BigFrame Cp

end Go.Proofs.Ytiladkinndgeaaa
/- Deeds, with errors. -/
namespace Go.Proofs.Ytiladkinndgeaaa
open Go Go.RowKit Go.BigFrame Cp

end Go.Proofs.Ytiladkinndgeaaa
/- A deed, with errors. -/
namespace Go.Proofs.Ytiladkinndgeaaa
open Go Go.RowKit Go.BigFrame Cp

end Go.Proofs.Ytiladkinndgeaaa
/- A part of a slice; deeds that take, and their list. -/
namespace Go.Proofs.Ytiladkinndgeaaa
open Go Go.RowKit Go.BigFrame Cp

theorem rsl_sub {α : Type} {R : Rd α} {sz : Nat} {F : Nat → Prop} {w : World} {l : List α} {a : Option Addr} {n c : Nat} (h : RSl R sz F w (.slice a n c) l) {i j : Nat} (hij : i ≤ j) (hj : j ≤ n) :
    RSl R sz F w (.slice (if c = i then a else a.map (·.add (i * sz))) (j - i) (c - i)) ((l.drop i).take (j - i)) := by
  obtain ⟨a', cap, e, h1, h2, h3⟩ := h
  injection e with e1 e2 e3
  subst e1; subst e2; subst e3
  refine ⟨_, _, by rw [List.length_take, List.length_drop, Nat.min_eq_left (by omega)], by rw [List.length_take, List.length_drop]; omega, by omega, fun hne => ?_⟩
  have hlt : i < j := by
    rcases Nat.lt_or_ge i j with h | h
    · exact h
    · exact absurd (by rw [show j - i = 0 by omega]; rfl) hne
  rw [if_neg (by omega)]
  obtain ⟨b', o', e', hF, hl, hx⟩ := h3 (fun e => by subst e; simp at hj; omega)
  subst e'
  refine ⟨b', o' + i * sz, by simp [Addr.add], hF, hl, fun t x ht => ?_⟩
  rw [List.getElem?_take] at ht
  split at ht
  · rw [List.getElem?_drop] at ht
    obtain ⟨cs, c1, c2, c3⟩ := hx (i + t) x ht
    exact ⟨cs, c1, by rw [Nat.add_mul, ← Nat.add_assoc] at c2; exact c2, c3⟩
  · cases ht
end Go.Proofs.Ytiladkinndgeaaa
