/-
  No cell of these rows narrows 'for every input' (looked for: loops, veiled, ifaces, maps, wideKeys, modest, calm, conditions, laid).
  DERIVED. THE GIVEN ROWS OF THIS SEAT. 12 by the template 'for every input the law returns true; each argument reads behind the call as it read before'; 0 by the template 'total and deterministic' (their statements: YtgnccjojfebkeaaGreatTotals.lean).
  GIVEN WITH THE SEED: the statements are not yours to turn. If you find one false, say at which input.
  Laid BY PROGRAM, IN A SANDBOX (cutbox-rows.mjs): the forced cells as the released guide's own fill.sh prints them over the translation cc984483f730a187… (all of the seat's roots in one cut). By AI agents, Wed Nov 11 2026. No macro, syntax, notation, axiom, sorry.
-/
import Derived.Test.YtgnccjojfebkeaaGreatChecked
import GoSem.Claim
import GoSem.ClaimJoined
import GoSem.ClaimMapViews
import Derived.JoinedTies
import Derived.KernelRfl
namespace Go.Proofs.YtgnccjojfebkeaaGreat
/- THE CELL 'sum', in the pinned program and in every row, IS THE sha256 OF THE DUMP (.gsa) THAT YtgnccjojfebkeaaGreatProg.lean LOADS. Nothing in Lean hashes anything: it is a label: what it is worth is what the hold of that sum in a sandbox is worth. -/
noncomputable def Tryz.pinned : Pinned := { name := "ytgnccjojfebkeaagreat", sum := "cc984483f730a187d2b0e76946d6307d877b9458d9e12f2a29f62a5ee12b74f5", checked := Tryz.checked }
namespace Rows
def none {H : Type} : Left H := { results := [], args := [] }

/-- 'commonplacelaw.WorldDoes': WHATEVER THE INPUT: true; the input reads as it did. -/
def worldDoesSpec : ChangeSpec := { name := "worldDoes", fn := fun _ => fun
  | [d1, d2, d3] => { results := [.lit (.bool true)], args := [d1, d2, d3] }
  | _ => none }
def worldDoesRow : OpenClaim := { program := "ytgnccjojfebkeaagreat", sum := "cc984483f730a187d2b0e76946d6307d877b9458d9e12f2a29f62a5ee12b74f5", func := "commonplace/commonplacelaw.WorldDoes", spec := "worldDoes", inPlace := ["slices.overlaps[commonplace/api.Note]", "slices.overlaps[commonplace/api.Atom]", "slices.overlaps[commonplace/api.Mark]", "internal/abi.NoEscape"], unfollowed := true, recurses := true, apart := false }
def WorldDoesSaid : Prop := worldDoesRow.holds Tryz.pinned (OpenSpec.ofChange worldDoesSpec)

/-- ITS FALSE NEIGHBOUR: 'it returns false'. Refute it at one input. -/
def worldDoesWrong : ChangeSpec := { name := "worldDoes", fn := fun _ => fun
  | [d1, d2, d3] => { results := [.lit (.bool false)], args := [d1, d2, d3] }
  | _ => none }
def WorldDoesWrongFalsely : Prop := worldDoesRow.holds Tryz.pinned (OpenSpec.ofChange worldDoesWrong)

/-- 'commonplacelaw.RestDesks': WHATEVER THE INPUT: true; the input reads as it did. -/
def restDesksSpec : ChangeSpec := { name := "restDesks", fn := fun _ => fun
  | [d1, d2, d3, d4] => { results := [.lit (.bool true)], args := [d1, d2, d3, d4] }
  | _ => none }
def restDesksRow : OpenClaim := { program := "ytgnccjojfebkeaagreat", sum := "cc984483f730a187d2b0e76946d6307d877b9458d9e12f2a29f62a5ee12b74f5", func := "commonplace/commonplacelaw.RestDesks", spec := "restDesks", inPlace := ["slices.overlaps[commonplace/api.Note]", "slices.overlaps[commonplace/api.Atom]", "slices.overlaps[commonplace/api.Mark]", "internal/abi.NoEscape"], unfollowed := true, recurses := true, apart := false }
def RestDesksSaid : Prop := restDesksRow.holds Tryz.pinned (OpenSpec.ofChange restDesksSpec)

/-- ITS FALSE NEIGHBOUR: 'it returns false'. Refute it at one input. -/
def restDesksWrong : ChangeSpec := { name := "restDesks", fn := fun _ => fun
  | [d1, d2, d3, d4] => { results := [.lit (.bool false)], args := [d1, d2, d3, d4] }
  | _ => none }
def RestDesksWrongFalsely : Prop := restDesksRow.holds Tryz.pinned (OpenSpec.ofChange restDesksWrong)

/-- 'commonplacelaw.DeskTypes': WHATEVER THE INPUT: true; the input reads as it did. -/
def deskTypesSpec : ChangeSpec := { name := "deskTypes", fn := fun _ => fun
  | [d1, d2, d3] => { results := [.lit (.bool true)], args := [d1, d2, d3] }
  | _ => none }
def deskTypesRow : OpenClaim := { program := "ytgnccjojfebkeaagreat", sum := "cc984483f730a187d2b0e76946d6307d877b9458d9e12f2a29f62a5ee12b74f5", func := "commonplace/commonplacelaw.DeskTypes", spec := "deskTypes", inPlace := ["slices.overlaps[commonplace/api.Atom]", "slices.overlaps[commonplace/api.Mark]", "slices.overlaps[commonplace/api.Note]", "internal/abi.NoEscape"], unfollowed := true, recurses := true, apart := false }
def DeskTypesSaid : Prop := deskTypesRow.holds Tryz.pinned (OpenSpec.ofChange deskTypesSpec)

/-- ITS FALSE NEIGHBOUR: 'it returns false'. Refute it at one input. -/
def deskTypesWrong : ChangeSpec := { name := "deskTypes", fn := fun _ => fun
  | [d1, d2, d3] => { results := [.lit (.bool false)], args := [d1, d2, d3] }
  | _ => none }
def DeskTypesWrongFalsely : Prop := deskTypesRow.holds Tryz.pinned (OpenSpec.ofChange deskTypesWrong)

/-- 'commonplacelaw.DeskCuts': WHATEVER THE INPUT: true; the input reads as it did. -/
def deskCutsSpec : ChangeSpec := { name := "deskCuts", fn := fun _ => fun
  | [d1, d2, d3] => { results := [.lit (.bool true)], args := [d1, d2, d3] }
  | _ => none }
def deskCutsRow : OpenClaim := { program := "ytgnccjojfebkeaagreat", sum := "cc984483f730a187d2b0e76946d6307d877b9458d9e12f2a29f62a5ee12b74f5", func := "commonplace/commonplacelaw.DeskCuts", spec := "deskCuts", inPlace := ["slices.overlaps[commonplace/api.Atom]", "slices.overlaps[commonplace/api.Mark]", "slices.overlaps[commonplace/api.Note]", "internal/abi.NoEscape"], unfollowed := true, recurses := true, apart := false }
def DeskCutsSaid : Prop := deskCutsRow.holds Tryz.pinned (OpenSpec.ofChange deskCutsSpec)

/-- ITS FALSE NEIGHBOUR: 'it returns false'. Refute it at one input. -/
def deskCutsWrong : ChangeSpec := { name := "deskCuts", fn := fun _ => fun
  | [d1, d2, d3] => { results := [.lit (.bool false)], args := [d1, d2, d3] }
  | _ => none }
def DeskCutsWrongFalsely : Prop := deskCutsRow.holds Tryz.pinned (OpenSpec.ofChange deskCutsWrong)

/-- 'commonplacelaw.DeskReceives': WHATEVER THE INPUT: true; the input reads as it did. -/
def deskReceivesSpec : ChangeSpec := { name := "deskReceives", fn := fun _ => fun
  | [d1, d2, d3] => { results := [.lit (.bool true)], args := [d1, d2, d3] }
  | _ => none }
def deskReceivesRow : OpenClaim := { program := "ytgnccjojfebkeaagreat", sum := "cc984483f730a187d2b0e76946d6307d877b9458d9e12f2a29f62a5ee12b74f5", func := "commonplace/commonplacelaw.DeskReceives", spec := "deskReceives", inPlace := ["slices.overlaps[commonplace/api.Note]", "slices.overlaps[commonplace/api.Atom]", "slices.overlaps[commonplace/api.Mark]", "internal/abi.NoEscape"], unfollowed := true, recurses := true, apart := false }
def DeskReceivesSaid : Prop := deskReceivesRow.holds Tryz.pinned (OpenSpec.ofChange deskReceivesSpec)

/-- ITS FALSE NEIGHBOUR: 'it returns false'. Refute it at one input. -/
def deskReceivesWrong : ChangeSpec := { name := "deskReceives", fn := fun _ => fun
  | [d1, d2, d3] => { results := [.lit (.bool false)], args := [d1, d2, d3] }
  | _ => none }
def DeskReceivesWrongFalsely : Prop := deskReceivesRow.holds Tryz.pinned (OpenSpec.ofChange deskReceivesWrong)

/-- 'commonplacelaw.DeskAny': WHATEVER THE INPUT: true; the input reads as it did. -/
def deskAnySpec : ChangeSpec := { name := "deskAny", fn := fun _ => fun
  | [d1, d2, d3] => { results := [.lit (.bool true)], args := [d1, d2, d3] }
  | _ => none }
def deskAnyRow : OpenClaim := { program := "ytgnccjojfebkeaagreat", sum := "cc984483f730a187d2b0e76946d6307d877b9458d9e12f2a29f62a5ee12b74f5", func := "commonplace/commonplacelaw.DeskAny", spec := "deskAny", inPlace := ["slices.overlaps[commonplace/api.Note]", "slices.overlaps[commonplace/api.Atom]", "slices.overlaps[commonplace/api.Mark]", "internal/abi.NoEscape"], unfollowed := true, recurses := true, apart := false }
def DeskAnySaid : Prop := deskAnyRow.holds Tryz.pinned (OpenSpec.ofChange deskAnySpec)

/-- ITS FALSE NEIGHBOUR: 'it returns false'. Refute it at one input. -/
def deskAnyWrong : ChangeSpec := { name := "deskAny", fn := fun _ => fun
  | [d1, d2, d3] => { results := [.lit (.bool false)], args := [d1, d2, d3] }
  | _ => none }
def DeskAnyWrongFalsely : Prop := deskAnyRow.holds Tryz.pinned (OpenSpec.ofChange deskAnyWrong)

/-- 'commonplacelaw.DeskTwo': WHATEVER THE INPUT: true; the input reads as it did. -/
def deskTwoSpec : ChangeSpec := { name := "deskTwo", fn := fun _ => fun
  | [d1, d2, d3, d4] => { results := [.lit (.bool true)], args := [d1, d2, d3, d4] }
  | _ => none }
def deskTwoRow : OpenClaim := { program := "ytgnccjojfebkeaagreat", sum := "cc984483f730a187d2b0e76946d6307d877b9458d9e12f2a29f62a5ee12b74f5", func := "commonplace/commonplacelaw.DeskTwo", spec := "deskTwo", inPlace := ["slices.overlaps[commonplace/api.Note]", "slices.overlaps[commonplace/api.Atom]", "slices.overlaps[commonplace/api.Mark]", "internal/abi.NoEscape"], unfollowed := true, recurses := true, apart := false }
def DeskTwoSaid : Prop := deskTwoRow.holds Tryz.pinned (OpenSpec.ofChange deskTwoSpec)

/-- ITS FALSE NEIGHBOUR: 'it returns false'. Refute it at one input. -/
def deskTwoWrong : ChangeSpec := { name := "deskTwo", fn := fun _ => fun
  | [d1, d2, d3, d4] => { results := [.lit (.bool false)], args := [d1, d2, d3, d4] }
  | _ => none }
def DeskTwoWrongFalsely : Prop := deskTwoRow.holds Tryz.pinned (OpenSpec.ofChange deskTwoWrong)

/-- 'commonplacelaw.DeskGrows': WHATEVER THE INPUT: true; the input reads as it did. -/
def deskGrowsSpec : ChangeSpec := { name := "deskGrows", fn := fun _ => fun
  | [d1, d2] => { results := [.lit (.bool true)], args := [d1, d2] }
  | _ => none }
def deskGrowsRow : OpenClaim := { program := "ytgnccjojfebkeaagreat", sum := "cc984483f730a187d2b0e76946d6307d877b9458d9e12f2a29f62a5ee12b74f5", func := "commonplace/commonplacelaw.DeskGrows", spec := "deskGrows", inPlace := ["slices.overlaps[commonplace/api.Note]", "slices.overlaps[commonplace/api.Atom]", "slices.overlaps[commonplace/api.Mark]", "internal/abi.NoEscape"], unfollowed := true, recurses := true, apart := false }
def DeskGrowsSaid : Prop := deskGrowsRow.holds Tryz.pinned (OpenSpec.ofChange deskGrowsSpec)

/-- ITS FALSE NEIGHBOUR: 'it returns false'. Refute it at one input. -/
def deskGrowsWrong : ChangeSpec := { name := "deskGrows", fn := fun _ => fun
  | [d1, d2] => { results := [.lit (.bool false)], args := [d1, d2] }
  | _ => none }
def DeskGrowsWrongFalsely : Prop := deskGrowsRow.holds Tryz.pinned (OpenSpec.ofChange deskGrowsWrong)

/-- 'commonplacelaw.RelayNew': WHATEVER THE INPUT: true; the input reads as it did. -/
def relayNewSpec : ChangeSpec := { name := "relayNew", fn := fun _ => fun
  | [d1, d2] => { results := [.lit (.bool true)], args := [d1, d2] }
  | _ => none }
def relayNewRow : OpenClaim := { program := "ytgnccjojfebkeaagreat", sum := "cc984483f730a187d2b0e76946d6307d877b9458d9e12f2a29f62a5ee12b74f5", func := "commonplace/commonplacelaw.RelayNew", spec := "relayNew", inPlace := ["slices.overlaps[commonplace/api.Note]", "slices.overlaps[commonplace/api.Atom]", "slices.overlaps[commonplace/api.Mark]", "internal/abi.NoEscape"], unfollowed := true, recurses := true, apart := false }
def RelayNewSaid : Prop := relayNewRow.holds Tryz.pinned (OpenSpec.ofChange relayNewSpec)

/-- ITS FALSE NEIGHBOUR: 'it returns false'. Refute it at one input. -/
def relayNewWrong : ChangeSpec := { name := "relayNew", fn := fun _ => fun
  | [d1, d2] => { results := [.lit (.bool false)], args := [d1, d2] }
  | _ => none }
def RelayNewWrongFalsely : Prop := relayNewRow.holds Tryz.pinned (OpenSpec.ofChange relayNewWrong)

/-- 'commonplacelaw.WorldRuns': WHATEVER THE INPUT: true; the input reads as it did. -/
def worldRunsSpec : ChangeSpec := { name := "worldRuns", fn := fun _ => fun
  | [d1, d2] => { results := [.lit (.bool true)], args := [d1, d2] }
  | _ => none }
def worldRunsRow : OpenClaim := { program := "ytgnccjojfebkeaagreat", sum := "cc984483f730a187d2b0e76946d6307d877b9458d9e12f2a29f62a5ee12b74f5", func := "commonplace/commonplacelaw.WorldRuns", spec := "worldRuns", inPlace := ["slices.overlaps[commonplace/api.Note]", "slices.overlaps[commonplace/api.Atom]", "slices.overlaps[commonplace/api.Mark]", "internal/abi.NoEscape"], unfollowed := true, recurses := true, apart := false }
def WorldRunsSaid : Prop := worldRunsRow.holds Tryz.pinned (OpenSpec.ofChange worldRunsSpec)

/-- ITS FALSE NEIGHBOUR: 'it returns false'. Refute it at one input. -/
def worldRunsWrong : ChangeSpec := { name := "worldRuns", fn := fun _ => fun
  | [d1, d2] => { results := [.lit (.bool false)], args := [d1, d2] }
  | _ => none }
def WorldRunsWrongFalsely : Prop := worldRunsRow.holds Tryz.pinned (OpenSpec.ofChange worldRunsWrong)

/-- 'commonplacelaw.WorldMeets': WHATEVER THE INPUT: true; the input reads as it did. -/
def worldMeetsSpec : ChangeSpec := { name := "worldMeets", fn := fun _ => fun
  | [d1, d2] => { results := [.lit (.bool true)], args := [d1, d2] }
  | _ => none }
def worldMeetsRow : OpenClaim := { program := "ytgnccjojfebkeaagreat", sum := "cc984483f730a187d2b0e76946d6307d877b9458d9e12f2a29f62a5ee12b74f5", func := "commonplace/commonplacelaw.WorldMeets", spec := "worldMeets", inPlace := ["slices.overlaps[commonplace/api.Note]", "slices.overlaps[commonplace/api.Atom]", "slices.overlaps[commonplace/api.Mark]", "internal/abi.NoEscape"], unfollowed := true, recurses := true, apart := false }
def WorldMeetsSaid : Prop := worldMeetsRow.holds Tryz.pinned (OpenSpec.ofChange worldMeetsSpec)

/-- ITS FALSE NEIGHBOUR: 'it returns false'. Refute it at one input. -/
def worldMeetsWrong : ChangeSpec := { name := "worldMeets", fn := fun _ => fun
  | [d1, d2] => { results := [.lit (.bool false)], args := [d1, d2] }
  | _ => none }
def WorldMeetsWrongFalsely : Prop := worldMeetsRow.holds Tryz.pinned (OpenSpec.ofChange worldMeetsWrong)

/-- 'commonplacelaw.WorldLost': WHATEVER THE INPUT: true; the input reads as it did. -/
def worldLostSpec : ChangeSpec := { name := "worldLost", fn := fun _ => fun
  | [d1, d2, d3] => { results := [.lit (.bool true)], args := [d1, d2, d3] }
  | _ => none }
def worldLostRow : OpenClaim := { program := "ytgnccjojfebkeaagreat", sum := "cc984483f730a187d2b0e76946d6307d877b9458d9e12f2a29f62a5ee12b74f5", func := "commonplace/commonplacelaw.WorldLost", spec := "worldLost", inPlace := ["slices.overlaps[commonplace/api.Note]", "slices.overlaps[commonplace/api.Atom]", "slices.overlaps[commonplace/api.Mark]", "internal/abi.NoEscape"], unfollowed := true, recurses := true, apart := false }
def WorldLostSaid : Prop := worldLostRow.holds Tryz.pinned (OpenSpec.ofChange worldLostSpec)

/-- ITS FALSE NEIGHBOUR: 'it returns false'. Refute it at one input. -/
def worldLostWrong : ChangeSpec := { name := "worldLost", fn := fun _ => fun
  | [d1, d2, d3] => { results := [.lit (.bool false)], args := [d1, d2, d3] }
  | _ => none }
def WorldLostWrongFalsely : Prop := worldLostRow.holds Tryz.pinned (OpenSpec.ofChange worldLostWrong)

/- THE SECOND FORM. 'bulk': how many values and letters a reading holds, each counted each time it is reached (what is shared counts as often as it is met; a slice's spare places count too). A statement '..UptoSaid' is the law's where the arguments, and the package variables that the reading takes, are together of bulk at most 1048576: NARROWER than '..Said'. Prove '..Said' where nothing that the law and all that it calls make is longer than what came in: it says more and counts as full. Else prove '..UptoSaid'. A law counts once. -/
mutual
def uptoBulk {H : Type} : DataW H → Nat
  | .lit (.string bytes) => bytes.length + 1
  | .lit _ => 1
  | .nil => 1
  | .ptr d => uptoBulk d + 1
  | .slice elems spare => uptoBulkAll elems + uptoBulkAll spare + 1
  | .agg parts => uptoBulkAll parts + 1
  | .iface _ d => uptoBulk d + 1
  | .map entries => uptoBulkEntries entries + 1
  | .held _ => 1
def uptoBulkAll {H : Type} : List (DataW H) → Nat
  | [] => 0
  | d :: r => uptoBulk d + uptoBulkAll r
def uptoBulkEntries {H : Type} : List (Lit × DataW H) → Nat
  | [] => 0
  | x :: r => uptoBulkEntry x + uptoBulkEntries r
def uptoBulkEntry {H : Type} : Lit × DataW H → Nat
  | (.string bytes, d) => bytes.length + uptoBulk d + 1
  | (_, d) => uptoBulk d + 1
 end
def uptoSmall : (H : Type) → List (DataW H) → Bool := fun _ ds => decide (uptoBulkAll ds ≤ 1048576)
def OpenSpec.upto (s : _root_.Go.ChangeSpec) : _root_.Go.OpenSpec := { _root_.Go.OpenSpec.ofChange s with cond := some uptoSmall }

/-- 'commonplacelaw.WorldDoes', WHERE WHAT IT READS IS OF BULK AT MOST 1048576: true; the input reads as it did. -/
def worldDoesUptoRow : OpenClaim := { program := "ytgnccjojfebkeaagreat", sum := "cc984483f730a187d2b0e76946d6307d877b9458d9e12f2a29f62a5ee12b74f5", func := "commonplace/commonplacelaw.WorldDoes", spec := "worldDoes", inPlace := ["slices.overlaps[commonplace/api.Note]", "slices.overlaps[commonplace/api.Atom]", "slices.overlaps[commonplace/api.Mark]", "internal/abi.NoEscape"], unfollowed := true, recurses := true, apart := false, narrowed := true }
def WorldDoesUptoSaid : Prop := worldDoesUptoRow.holds Tryz.pinned (OpenSpec.upto worldDoesSpec)

/-- 'commonplacelaw.RestDesks', WHERE WHAT IT READS IS OF BULK AT MOST 1048576: true; the input reads as it did. -/
def restDesksUptoRow : OpenClaim := { program := "ytgnccjojfebkeaagreat", sum := "cc984483f730a187d2b0e76946d6307d877b9458d9e12f2a29f62a5ee12b74f5", func := "commonplace/commonplacelaw.RestDesks", spec := "restDesks", inPlace := ["slices.overlaps[commonplace/api.Note]", "slices.overlaps[commonplace/api.Atom]", "slices.overlaps[commonplace/api.Mark]", "internal/abi.NoEscape"], unfollowed := true, recurses := true, apart := false, narrowed := true }
def RestDesksUptoSaid : Prop := restDesksUptoRow.holds Tryz.pinned (OpenSpec.upto restDesksSpec)

/-- 'commonplacelaw.DeskTypes', WHERE WHAT IT READS IS OF BULK AT MOST 1048576: true; the input reads as it did. -/
def deskTypesUptoRow : OpenClaim := { program := "ytgnccjojfebkeaagreat", sum := "cc984483f730a187d2b0e76946d6307d877b9458d9e12f2a29f62a5ee12b74f5", func := "commonplace/commonplacelaw.DeskTypes", spec := "deskTypes", inPlace := ["slices.overlaps[commonplace/api.Atom]", "slices.overlaps[commonplace/api.Mark]", "slices.overlaps[commonplace/api.Note]", "internal/abi.NoEscape"], unfollowed := true, recurses := true, apart := false, narrowed := true }
def DeskTypesUptoSaid : Prop := deskTypesUptoRow.holds Tryz.pinned (OpenSpec.upto deskTypesSpec)

/-- 'commonplacelaw.DeskCuts', WHERE WHAT IT READS IS OF BULK AT MOST 1048576: true; the input reads as it did. -/
def deskCutsUptoRow : OpenClaim := { program := "ytgnccjojfebkeaagreat", sum := "cc984483f730a187d2b0e76946d6307d877b9458d9e12f2a29f62a5ee12b74f5", func := "commonplace/commonplacelaw.DeskCuts", spec := "deskCuts", inPlace := ["slices.overlaps[commonplace/api.Atom]", "slices.overlaps[commonplace/api.Mark]", "slices.overlaps[commonplace/api.Note]", "internal/abi.NoEscape"], unfollowed := true, recurses := true, apart := false, narrowed := true }
def DeskCutsUptoSaid : Prop := deskCutsUptoRow.holds Tryz.pinned (OpenSpec.upto deskCutsSpec)

/-- 'commonplacelaw.DeskReceives', WHERE WHAT IT READS IS OF BULK AT MOST 1048576: true; the input reads as it did. -/
def deskReceivesUptoRow : OpenClaim := { program := "ytgnccjojfebkeaagreat", sum := "cc984483f730a187d2b0e76946d6307d877b9458d9e12f2a29f62a5ee12b74f5", func := "commonplace/commonplacelaw.DeskReceives", spec := "deskReceives", inPlace := ["slices.overlaps[commonplace/api.Note]", "slices.overlaps[commonplace/api.Atom]", "slices.overlaps[commonplace/api.Mark]", "internal/abi.NoEscape"], unfollowed := true, recurses := true, apart := false, narrowed := true }
def DeskReceivesUptoSaid : Prop := deskReceivesUptoRow.holds Tryz.pinned (OpenSpec.upto deskReceivesSpec)

/-- 'commonplacelaw.DeskAny', WHERE WHAT IT READS IS OF BULK AT MOST 1048576: true; the input reads as it did. -/
def deskAnyUptoRow : OpenClaim := { program := "ytgnccjojfebkeaagreat", sum := "cc984483f730a187d2b0e76946d6307d877b9458d9e12f2a29f62a5ee12b74f5", func := "commonplace/commonplacelaw.DeskAny", spec := "deskAny", inPlace := ["slices.overlaps[commonplace/api.Note]", "slices.overlaps[commonplace/api.Atom]", "slices.overlaps[commonplace/api.Mark]", "internal/abi.NoEscape"], unfollowed := true, recurses := true, apart := false, narrowed := true }
def DeskAnyUptoSaid : Prop := deskAnyUptoRow.holds Tryz.pinned (OpenSpec.upto deskAnySpec)

/-- 'commonplacelaw.DeskTwo', WHERE WHAT IT READS IS OF BULK AT MOST 1048576: true; the input reads as it did. -/
def deskTwoUptoRow : OpenClaim := { program := "ytgnccjojfebkeaagreat", sum := "cc984483f730a187d2b0e76946d6307d877b9458d9e12f2a29f62a5ee12b74f5", func := "commonplace/commonplacelaw.DeskTwo", spec := "deskTwo", inPlace := ["slices.overlaps[commonplace/api.Note]", "slices.overlaps[commonplace/api.Atom]", "slices.overlaps[commonplace/api.Mark]", "internal/abi.NoEscape"], unfollowed := true, recurses := true, apart := false, narrowed := true }
def DeskTwoUptoSaid : Prop := deskTwoUptoRow.holds Tryz.pinned (OpenSpec.upto deskTwoSpec)

/-- 'commonplacelaw.DeskGrows', WHERE WHAT IT READS IS OF BULK AT MOST 1048576: true; the input reads as it did. -/
def deskGrowsUptoRow : OpenClaim := { program := "ytgnccjojfebkeaagreat", sum := "cc984483f730a187d2b0e76946d6307d877b9458d9e12f2a29f62a5ee12b74f5", func := "commonplace/commonplacelaw.DeskGrows", spec := "deskGrows", inPlace := ["slices.overlaps[commonplace/api.Note]", "slices.overlaps[commonplace/api.Atom]", "slices.overlaps[commonplace/api.Mark]", "internal/abi.NoEscape"], unfollowed := true, recurses := true, apart := false, narrowed := true }
def DeskGrowsUptoSaid : Prop := deskGrowsUptoRow.holds Tryz.pinned (OpenSpec.upto deskGrowsSpec)

/-- 'commonplacelaw.RelayNew', WHERE WHAT IT READS IS OF BULK AT MOST 1048576: true; the input reads as it did. -/
def relayNewUptoRow : OpenClaim := { program := "ytgnccjojfebkeaagreat", sum := "cc984483f730a187d2b0e76946d6307d877b9458d9e12f2a29f62a5ee12b74f5", func := "commonplace/commonplacelaw.RelayNew", spec := "relayNew", inPlace := ["slices.overlaps[commonplace/api.Note]", "slices.overlaps[commonplace/api.Atom]", "slices.overlaps[commonplace/api.Mark]", "internal/abi.NoEscape"], unfollowed := true, recurses := true, apart := false, narrowed := true }
def RelayNewUptoSaid : Prop := relayNewUptoRow.holds Tryz.pinned (OpenSpec.upto relayNewSpec)

/-- 'commonplacelaw.WorldRuns', WHERE WHAT IT READS IS OF BULK AT MOST 1048576: true; the input reads as it did. -/
def worldRunsUptoRow : OpenClaim := { program := "ytgnccjojfebkeaagreat", sum := "cc984483f730a187d2b0e76946d6307d877b9458d9e12f2a29f62a5ee12b74f5", func := "commonplace/commonplacelaw.WorldRuns", spec := "worldRuns", inPlace := ["slices.overlaps[commonplace/api.Note]", "slices.overlaps[commonplace/api.Atom]", "slices.overlaps[commonplace/api.Mark]", "internal/abi.NoEscape"], unfollowed := true, recurses := true, apart := false, narrowed := true }
def WorldRunsUptoSaid : Prop := worldRunsUptoRow.holds Tryz.pinned (OpenSpec.upto worldRunsSpec)

/-- 'commonplacelaw.WorldMeets', WHERE WHAT IT READS IS OF BULK AT MOST 1048576: true; the input reads as it did. -/
def worldMeetsUptoRow : OpenClaim := { program := "ytgnccjojfebkeaagreat", sum := "cc984483f730a187d2b0e76946d6307d877b9458d9e12f2a29f62a5ee12b74f5", func := "commonplace/commonplacelaw.WorldMeets", spec := "worldMeets", inPlace := ["slices.overlaps[commonplace/api.Note]", "slices.overlaps[commonplace/api.Atom]", "slices.overlaps[commonplace/api.Mark]", "internal/abi.NoEscape"], unfollowed := true, recurses := true, apart := false, narrowed := true }
def WorldMeetsUptoSaid : Prop := worldMeetsUptoRow.holds Tryz.pinned (OpenSpec.upto worldMeetsSpec)

/-- 'commonplacelaw.WorldLost', WHERE WHAT IT READS IS OF BULK AT MOST 1048576: true; the input reads as it did. -/
def worldLostUptoRow : OpenClaim := { program := "ytgnccjojfebkeaagreat", sum := "cc984483f730a187d2b0e76946d6307d877b9458d9e12f2a29f62a5ee12b74f5", func := "commonplace/commonplacelaw.WorldLost", spec := "worldLost", inPlace := ["slices.overlaps[commonplace/api.Note]", "slices.overlaps[commonplace/api.Atom]", "slices.overlaps[commonplace/api.Mark]", "internal/abi.NoEscape"], unfollowed := true, recurses := true, apart := false, narrowed := true }
def WorldLostUptoSaid : Prop := worldLostUptoRow.holds Tryz.pinned (OpenSpec.upto worldLostSpec)

end Rows
end Go.Proofs.YtgnccjojfebkeaaGreat
