/-
  No cell of these rows narrows 'for every input' (looked for: loops, veiled, ifaces, maps, wideKeys, modest, calm, conditions, laid).
  DERIVED. THE GIVEN ROWS OF THIS SEAT. 4 by the template 'for every input the law returns true; each argument reads behind the call as it read before'; 0 by the template 'total and deterministic' (their statements: YtiladkinndgeaaaTotals.lean).
  GIVEN WITH THE SEED: the statements are not yours to turn. If you find one false, say at which input.
  Laid BY PROGRAM, IN A SANDBOX (cutbox-rows.mjs): the forced cells as the released guide's own fill.sh prints them over the translation 9ad26099de4a035a… (all of the seat's roots in one cut). By AI agents, Wed Nov 11 2026. No macro, syntax, notation, axiom, sorry.
-/
import Derived.Test.YtiladkinndgeaaaChecked
import GoSem.Claim
import GoSem.ClaimJoined
import GoSem.ClaimMapViews
import Derived.JoinedTies
import Derived.KernelRfl
namespace Go.Proofs.Ytiladkinndgeaaa
/- THE CELL 'sum', in the pinned program and in every row, IS THE sha256 OF THE DUMP (.gsa) THAT YtiladkinndgeaaaProg.lean LOADS. Nothing in Lean hashes anything: it is a label: what it is worth is what the hold of that sum in a sandbox is worth. -/
noncomputable def Try.pinned : Pinned := { name := "ytiladkinndgeaaa", sum := "9ad26099de4a035a8317ed4ce5bcccbaff2906ccb1a8ac0d2204f8acc4ea7802", checked := Try.checked }
namespace Rows
def none {H : Type} : Left H := { results := [], args := [] }

/-- 'commonplacelaw.WireTells': WHATEVER THE INPUT: true; the input reads as it did. -/
def wireTellsSpec : ChangeSpec := { name := "wireTells", fn := fun _ => fun
  | [d1, d2] => { results := [.lit (.bool true)], args := [d1, d2] }
  | _ => none }
def wireTellsRow : OpenClaim := { program := "ytiladkinndgeaaa", sum := "9ad26099de4a035a8317ed4ce5bcccbaff2906ccb1a8ac0d2204f8acc4ea7802", func := "commonplace/commonplacelaw.WireTells", spec := "wireTells", unfollowed := true, recurses := true, apart := false }
def WireTellsSaid : Prop := wireTellsRow.holds Try.pinned (OpenSpec.ofChange wireTellsSpec)

/-- ITS FALSE NEIGHBOUR: 'it returns false'. Refute it at one input. -/
def wireTellsWrong : ChangeSpec := { name := "wireTells", fn := fun _ => fun
  | [d1, d2] => { results := [.lit (.bool false)], args := [d1, d2] }
  | _ => none }
def WireTellsWrongFalsely : Prop := wireTellsRow.holds Try.pinned (OpenSpec.ofChange wireTellsWrong)

/-- 'commonplacelaw.WireBack': WHATEVER THE INPUT: true; the input reads as it did. -/
def wireBackSpec : ChangeSpec := { name := "wireBack", fn := fun _ => fun
  | [d1, d2] => { results := [.lit (.bool true)], args := [d1, d2] }
  | _ => none }
def wireBackRow : OpenClaim := { program := "ytiladkinndgeaaa", sum := "9ad26099de4a035a8317ed4ce5bcccbaff2906ccb1a8ac0d2204f8acc4ea7802", func := "commonplace/commonplacelaw.WireBack", spec := "wireBack", unfollowed := true, recurses := true, apart := false }
def WireBackSaid : Prop := wireBackRow.holds Try.pinned (OpenSpec.ofChange wireBackSpec)

/-- ITS FALSE NEIGHBOUR: 'it returns false'. Refute it at one input. -/
def wireBackWrong : ChangeSpec := { name := "wireBack", fn := fun _ => fun
  | [d1, d2] => { results := [.lit (.bool false)], args := [d1, d2] }
  | _ => none }
def WireBackWrongFalsely : Prop := wireBackRow.holds Try.pinned (OpenSpec.ofChange wireBackWrong)

/-- 'commonplacelaw.RelayTells': WHATEVER THE INPUT: true; the input reads as it did. -/
def relayTellsSpec : ChangeSpec := { name := "relayTells", fn := fun _ => fun
  | [d1, d2, d3, d4] => { results := [.lit (.bool true)], args := [d1, d2, d3, d4] }
  | _ => none }
def relayTellsRow : OpenClaim := { program := "ytiladkinndgeaaa", sum := "9ad26099de4a035a8317ed4ce5bcccbaff2906ccb1a8ac0d2204f8acc4ea7802", func := "commonplace/commonplacelaw.RelayTells", spec := "relayTells", unfollowed := true, recurses := true, apart := false }
def RelayTellsSaid : Prop := relayTellsRow.holds Try.pinned (OpenSpec.ofChange relayTellsSpec)

/-- ITS FALSE NEIGHBOUR: 'it returns false'. Refute it at one input. -/
def relayTellsWrong : ChangeSpec := { name := "relayTells", fn := fun _ => fun
  | [d1, d2, d3, d4] => { results := [.lit (.bool false)], args := [d1, d2, d3, d4] }
  | _ => none }
def RelayTellsWrongFalsely : Prop := relayTellsRow.holds Try.pinned (OpenSpec.ofChange relayTellsWrong)

/-- 'commonplacelaw.RelayOnce': WHATEVER THE INPUT: true; the input reads as it did. -/
def relayOnceSpec : ChangeSpec := { name := "relayOnce", fn := fun _ => fun
  | [d1, d2] => { results := [.lit (.bool true)], args := [d1, d2] }
  | _ => none }
def relayOnceRow : OpenClaim := { program := "ytiladkinndgeaaa", sum := "9ad26099de4a035a8317ed4ce5bcccbaff2906ccb1a8ac0d2204f8acc4ea7802", func := "commonplace/commonplacelaw.RelayOnce", spec := "relayOnce", unfollowed := true, recurses := true, apart := false }
def RelayOnceSaid : Prop := relayOnceRow.holds Try.pinned (OpenSpec.ofChange relayOnceSpec)

/-- ITS FALSE NEIGHBOUR: 'it returns false'. Refute it at one input. -/
def relayOnceWrong : ChangeSpec := { name := "relayOnce", fn := fun _ => fun
  | [d1, d2] => { results := [.lit (.bool false)], args := [d1, d2] }
  | _ => none }
def RelayOnceWrongFalsely : Prop := relayOnceRow.holds Try.pinned (OpenSpec.ofChange relayOnceWrong)

/- THE SECOND FORM. 'bulk': how many values and letters a reading holds, each counted each time it is reached (what is shared counts as often as it is met; a slice's spare places count too). A statement '..UptoSaid' is the law's where the arguments, and the package variables that the reading takes, are together of bulk at most 1048576: NARROWER than '..Said'. Prove '..Said' where nothing that the law and all that it calls make is longer than what came in: it says more and counts as full. Else prove '..UptoSaid'. A law counts once. -/
mutual
def uptoBulk {H : Type} : DataW H → Nat
  | .lit (.string bytes) => bytes.length + 1
  | .lit _ => 1
  | .nil => 1
  | .ptr d => uptoBulk d + 1
  | .slice elems spare => uptoBulkAll elems + uptoBulkAll spare + 1
  | .agg parts => uptoBulkAll parts + 1
  | .iface _ d => uptoBulk d + 1
  | .map entries => uptoBulkEntries entries + 1
  | .held _ => 1
def uptoBulkAll {H : Type} : List (DataW H) → Nat
  | [] => 0
  | d :: r => uptoBulk d + uptoBulkAll r
def uptoBulkEntries {H : Type} : List (Lit × DataW H) → Nat
  | [] => 0
  | x :: r => uptoBulkEntry x + uptoBulkEntries r
def uptoBulkEntry {H : Type} : Lit × DataW H → Nat
  | (.string bytes, d) => bytes.length + uptoBulk d + 1
  | (_, d) => uptoBulk d + 1
 end
def uptoSmall : (H : Type) → List (DataW H) → Bool := fun _ ds => decide (uptoBulkAll ds ≤ 1048576)
def OpenSpec.upto (s : _root_.Go.ChangeSpec) : _root_.Go.OpenSpec := { _root_.Go.OpenSpec.ofChange s with cond := some uptoSmall }

/-- 'commonplacelaw.WireTells', WHERE WHAT IT READS IS OF BULK AT MOST 1048576: true; the input reads as it did. -/
def wireTellsUptoRow : OpenClaim := { program := "ytiladkinndgeaaa", sum := "9ad26099de4a035a8317ed4ce5bcccbaff2906ccb1a8ac0d2204f8acc4ea7802", func := "commonplace/commonplacelaw.WireTells", spec := "wireTells", unfollowed := true, recurses := true, apart := false, narrowed := true }
def WireTellsUptoSaid : Prop := wireTellsUptoRow.holds Try.pinned (OpenSpec.upto wireTellsSpec)

/-- 'commonplacelaw.WireBack', WHERE WHAT IT READS IS OF BULK AT MOST 1048576: true; the input reads as it did. -/
def wireBackUptoRow : OpenClaim := { program := "ytiladkinndgeaaa", sum := "9ad26099de4a035a8317ed4ce5bcccbaff2906ccb1a8ac0d2204f8acc4ea7802", func := "commonplace/commonplacelaw.WireBack", spec := "wireBack", unfollowed := true, recurses := true, apart := false, narrowed := true }
def WireBackUptoSaid : Prop := wireBackUptoRow.holds Try.pinned (OpenSpec.upto wireBackSpec)

/-- 'commonplacelaw.RelayTells', WHERE WHAT IT READS IS OF BULK AT MOST 1048576: true; the input reads as it did. -/
def relayTellsUptoRow : OpenClaim := { program := "ytiladkinndgeaaa", sum := "9ad26099de4a035a8317ed4ce5bcccbaff2906ccb1a8ac0d2204f8acc4ea7802", func := "commonplace/commonplacelaw.RelayTells", spec := "relayTells", unfollowed := true, recurses := true, apart := false, narrowed := true }
def RelayTellsUptoSaid : Prop := relayTellsUptoRow.holds Try.pinned (OpenSpec.upto relayTellsSpec)

/-- 'commonplacelaw.RelayOnce', WHERE WHAT IT READS IS OF BULK AT MOST 1048576: true; the input reads as it did. -/
def relayOnceUptoRow : OpenClaim := { program := "ytiladkinndgeaaa", sum := "9ad26099de4a035a8317ed4ce5bcccbaff2906ccb1a8ac0d2204f8acc4ea7802", func := "commonplace/commonplacelaw.RelayOnce", spec := "relayOnce", unfollowed := true, recurses := true, apart := false, narrowed := true }
def RelayOnceUptoSaid : Prop := relayOnceUptoRow.holds Try.pinned (OpenSpec.upto relayOnceSpec)

end Rows
end Go.Proofs.Ytiladkinndgeaaa
