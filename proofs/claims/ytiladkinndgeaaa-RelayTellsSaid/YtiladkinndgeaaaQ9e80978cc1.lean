/- The atoms of a run, one by one: the iterator. -/
import Derived.RangeFuncNested
import Derived.RangeFuncBound
import Derived.RangeFuncCalls
import Derived.RangeFuncLeaves
import Derived.Shelf.Abstract
import Derived.Shelf.RegionOpen
import Derived.WalkKit
import Derived.OwnWalkIn
import Derived.TacticsInMore
import Derived.LoopNIn
import Derived.LoopIn
import Derived.Test.YtiladkinndgeaaaQ65c817976e
import Derived.Test.YtiladkinndgeaaaQ20aeae9040
set_option linter.unusedVariables false
set_option linter.unusedSimpArgs false
namespace Go.Proofs.Ytiladkinndgeaaa
open Go Go.RowKit Go.BigFrame Cp

attribute [local go_sem] Oper.semAt_some
/-- an atom as it is handed on -/
structure Yd where
  a : Option Addr
  n : Nat
  c : Nat
  at_ : At
def encY (y : Yd) : Array Value := #[.agg #[.slice y.a y.n y.c, .int .i64 y.at_.1.2, .int .u8 (y.at_.2.toNat : Int)]]
def RpY (f : Nat → At) (B : Nat) (W : World) (k : Nat) (y : Yd) : Prop := y.at_ = f k ∧ RSl RStp 2 (fun j => B ≤ j) W (.slice y.a y.n y.c) y.at_.1.1 ∧ I64 y.at_.1.2
end Go.Proofs.Ytiladkinndgeaaa
