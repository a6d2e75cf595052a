/-
  No cell of these rows narrows 'for every input' (looked for: loops, veiled, ifaces, maps, wideKeys, modest, calm, conditions, laid).
  DERIVED. THE GIVEN ROWS OF THIS SEAT. 12 by the template 'for every input the law returns true; each argument reads behind the call as it read before'; 0 by the template 'total and deterministic' (their statements: YthkhkbjkbpgaoaaTotals.lean).
  GIVEN WITH THE SEED: the statements are not yours to turn. If you find one false, say at which input.
  Laid BY PROGRAM, IN A SANDBOX (cutbox-rows.mjs): the forced cells as the released guide's own fill.sh prints them over the translation a09eff39f2923660… (all of the seat's roots in one cut). By AI agents, Wed Nov 11 2026. No macro, syntax, notation, axiom, sorry.
-/
import Derived.Test.YthkhkbjkbpgaoaaChecked
import GoSem.Claim
import GoSem.ClaimJoined
import GoSem.ClaimMapViews
import Derived.JoinedTies
import Derived.KernelRfl
namespace Go.Proofs.Ythkhkbjkbpgaoaa
/- THE CELL 'sum', in the pinned program and in every row, IS THE sha256 OF THE DUMP (.gsa) THAT YthkhkbjkbpgaoaaProg.lean LOADS. Nothing in Lean hashes anything: it is a label: what it is worth is what the hold of that sum in a sandbox is worth. -/
noncomputable def Try.pinned : Pinned := { name := "ythkhkbjkbpgaoaa", sum := "a09eff39f29236606bef8d3d8202443a8c134f6df01d9b66adb74563fe27dfc4", checked := Try.checked }
namespace Rows
def none {H : Type} : Left H := { results := [], args := [] }

/-- 'commonplacelaw.DiffPlays': WHATEVER THE INPUT: true; the input reads as it did. -/
def diffPlaysSpec : ChangeSpec := { name := "diffPlays", fn := fun _ => fun
  | [d1, d2] => { results := [.lit (.bool true)], args := [d1, d2] }
  | _ => none }
def diffPlaysRow : OpenClaim := { program := "ythkhkbjkbpgaoaa", sum := "a09eff39f29236606bef8d3d8202443a8c134f6df01d9b66adb74563fe27dfc4", func := "commonplace/commonplacelaw.DiffPlays", spec := "diffPlays", unfollowed := true, recurses := true, apart := false }
def DiffPlaysSaid : Prop := diffPlaysRow.holds Try.pinned (OpenSpec.ofChange diffPlaysSpec)

/-- ITS FALSE NEIGHBOUR: 'it returns false'. Refute it at one input. -/
def diffPlaysWrong : ChangeSpec := { name := "diffPlays", fn := fun _ => fun
  | [d1, d2] => { results := [.lit (.bool false)], args := [d1, d2] }
  | _ => none }
def DiffPlaysWrongFalsely : Prop := diffPlaysRow.holds Try.pinned (OpenSpec.ofChange diffPlaysWrong)

/-- 'commonplacelaw.DiffLeads': WHATEVER THE INPUT: true; the input reads as it did. -/
def diffLeadsSpec : ChangeSpec := { name := "diffLeads", fn := fun _ => fun
  | [d1, d2] => { results := [.lit (.bool true)], args := [d1, d2] }
  | _ => none }
def diffLeadsRow : OpenClaim := { program := "ythkhkbjkbpgaoaa", sum := "a09eff39f29236606bef8d3d8202443a8c134f6df01d9b66adb74563fe27dfc4", func := "commonplace/commonplacelaw.DiffLeads", spec := "diffLeads", unfollowed := true, recurses := true, apart := false }
def DiffLeadsSaid : Prop := diffLeadsRow.holds Try.pinned (OpenSpec.ofChange diffLeadsSpec)

/-- ITS FALSE NEIGHBOUR: 'it returns false'. Refute it at one input. -/
def diffLeadsWrong : ChangeSpec := { name := "diffLeads", fn := fun _ => fun
  | [d1, d2] => { results := [.lit (.bool false)], args := [d1, d2] }
  | _ => none }
def DiffLeadsWrongFalsely : Prop := diffLeadsRow.holds Try.pinned (OpenSpec.ofChange diffLeadsWrong)

/-- 'commonplacelaw.DiffNear': WHATEVER THE INPUT: true; the input reads as it did. -/
def diffNearSpec : ChangeSpec := { name := "diffNear", fn := fun _ => fun
  | [d1, d2, d3] => { results := [.lit (.bool true)], args := [d1, d2, d3] }
  | _ => none }
def diffNearRow : OpenClaim := { program := "ythkhkbjkbpgaoaa", sum := "a09eff39f29236606bef8d3d8202443a8c134f6df01d9b66adb74563fe27dfc4", func := "commonplace/commonplacelaw.DiffNear", spec := "diffNear", unfollowed := true, recurses := true, apart := false }
def DiffNearSaid : Prop := diffNearRow.holds Try.pinned (OpenSpec.ofChange diffNearSpec)

/-- ITS FALSE NEIGHBOUR: 'it returns false'. Refute it at one input. -/
def diffNearWrong : ChangeSpec := { name := "diffNear", fn := fun _ => fun
  | [d1, d2, d3] => { results := [.lit (.bool false)], args := [d1, d2, d3] }
  | _ => none }
def DiffNearWrongFalsely : Prop := diffNearRow.holds Try.pinned (OpenSpec.ofChange diffNearWrong)

/-- 'commonplacelaw.CaretTells': WHATEVER THE INPUT: true; the input reads as it did. -/
def caretTellsSpec : ChangeSpec := { name := "caretTells", fn := fun _ => fun
  | [d1, d2, d3] => { results := [.lit (.bool true)], args := [d1, d2, d3] }
  | _ => none }
def caretTellsRow : OpenClaim := { program := "ythkhkbjkbpgaoaa", sum := "a09eff39f29236606bef8d3d8202443a8c134f6df01d9b66adb74563fe27dfc4", func := "commonplace/commonplacelaw.CaretTells", spec := "caretTells", unfollowed := true, recurses := true, apart := false }
def CaretTellsSaid : Prop := caretTellsRow.holds Try.pinned (OpenSpec.ofChange caretTellsSpec)

/-- ITS FALSE NEIGHBOUR: 'it returns false'. Refute it at one input. -/
def caretTellsWrong : ChangeSpec := { name := "caretTells", fn := fun _ => fun
  | [d1, d2, d3] => { results := [.lit (.bool false)], args := [d1, d2, d3] }
  | _ => none }
def CaretTellsWrongFalsely : Prop := caretTellsRow.holds Try.pinned (OpenSpec.ofChange caretTellsWrong)

/-- 'commonplacelaw.MarkTells': WHATEVER THE INPUT: true; the input reads as it did. -/
def markTellsSpec : ChangeSpec := { name := "markTells", fn := fun _ => fun
  | [d1, d2, d3] => { results := [.lit (.bool true)], args := [d1, d2, d3] }
  | _ => none }
def markTellsRow : OpenClaim := { program := "ythkhkbjkbpgaoaa", sum := "a09eff39f29236606bef8d3d8202443a8c134f6df01d9b66adb74563fe27dfc4", func := "commonplace/commonplacelaw.MarkTells", spec := "markTells", unfollowed := true, recurses := true, apart := false }
def MarkTellsSaid : Prop := markTellsRow.holds Try.pinned (OpenSpec.ofChange markTellsSpec)

/-- ITS FALSE NEIGHBOUR: 'it returns false'. Refute it at one input. -/
def markTellsWrong : ChangeSpec := { name := "markTells", fn := fun _ => fun
  | [d1, d2, d3] => { results := [.lit (.bool false)], args := [d1, d2, d3] }
  | _ => none }
def MarkTellsWrongFalsely : Prop := markTellsRow.holds Try.pinned (OpenSpec.ofChange markTellsWrong)

/-- 'commonplacelaw.MarkBetween': WHATEVER THE INPUT: true; the input reads as it did. -/
def markBetweenSpec : ChangeSpec := { name := "markBetween", fn := fun _ => fun
  | [d1, d2, d3, d4, d5] => { results := [.lit (.bool true)], args := [d1, d2, d3, d4, d5] }
  | _ => none }
def markBetweenRow : OpenClaim := { program := "ythkhkbjkbpgaoaa", sum := "a09eff39f29236606bef8d3d8202443a8c134f6df01d9b66adb74563fe27dfc4", func := "commonplace/commonplacelaw.MarkBetween", spec := "markBetween", unfollowed := true, recurses := true, apart := false }
def MarkBetweenSaid : Prop := markBetweenRow.holds Try.pinned (OpenSpec.ofChange markBetweenSpec)

/-- ITS FALSE NEIGHBOUR: 'it returns false'. Refute it at one input. -/
def markBetweenWrong : ChangeSpec := { name := "markBetween", fn := fun _ => fun
  | [d1, d2, d3, d4, d5] => { results := [.lit (.bool false)], args := [d1, d2, d3, d4, d5] }
  | _ => none }
def MarkBetweenWrongFalsely : Prop := markBetweenRow.holds Try.pinned (OpenSpec.ofChange markBetweenWrong)

/-- 'commonplacelaw.MarkOrders': WHATEVER THE INPUT: true; the input reads as it did. -/
def markOrdersSpec : ChangeSpec := { name := "markOrders", fn := fun _ => fun
  | [d1, d2, d3, d4, d5, d6, d7] => { results := [.lit (.bool true)], args := [d1, d2, d3, d4, d5, d6, d7] }
  | _ => none }
def markOrdersRow : OpenClaim := { program := "ythkhkbjkbpgaoaa", sum := "a09eff39f29236606bef8d3d8202443a8c134f6df01d9b66adb74563fe27dfc4", func := "commonplace/commonplacelaw.MarkOrders", spec := "markOrders", unfollowed := true, recurses := true, apart := false }
def MarkOrdersSaid : Prop := markOrdersRow.holds Try.pinned (OpenSpec.ofChange markOrdersSpec)

/-- ITS FALSE NEIGHBOUR: 'it returns false'. Refute it at one input. -/
def markOrdersWrong : ChangeSpec := { name := "markOrders", fn := fun _ => fun
  | [d1, d2, d3, d4, d5, d6, d7] => { results := [.lit (.bool false)], args := [d1, d2, d3, d4, d5, d6, d7] }
  | _ => none }
def MarkOrdersWrongFalsely : Prop := markOrdersRow.holds Try.pinned (OpenSpec.ofChange markOrdersWrong)

/-- 'commonplacelaw.MarkNext': WHATEVER THE INPUT: true; the input reads as it did. -/
def markNextSpec : ChangeSpec := { name := "markNext", fn := fun _ => fun
  | [d1, d2, d3] => { results := [.lit (.bool true)], args := [d1, d2, d3] }
  | _ => none }
def markNextRow : OpenClaim := { program := "ythkhkbjkbpgaoaa", sum := "a09eff39f29236606bef8d3d8202443a8c134f6df01d9b66adb74563fe27dfc4", func := "commonplace/commonplacelaw.MarkNext", spec := "markNext", unfollowed := true, recurses := true, apart := false }
def MarkNextSaid : Prop := markNextRow.holds Try.pinned (OpenSpec.ofChange markNextSpec)

/-- ITS FALSE NEIGHBOUR: 'it returns false'. Refute it at one input. -/
def markNextWrong : ChangeSpec := { name := "markNext", fn := fun _ => fun
  | [d1, d2, d3] => { results := [.lit (.bool false)], args := [d1, d2, d3] }
  | _ => none }
def MarkNextWrongFalsely : Prop := markNextRow.holds Try.pinned (OpenSpec.ofChange markNextWrong)

/-- 'commonplacelaw.RunTells': WHATEVER THE INPUT: true; the input reads as it did. -/
def runTellsSpec : ChangeSpec := { name := "runTells", fn := fun _ => fun
  | [d1, d2] => { results := [.lit (.bool true)], args := [d1, d2] }
  | _ => none }
def runTellsRow : OpenClaim := { program := "ythkhkbjkbpgaoaa", sum := "a09eff39f29236606bef8d3d8202443a8c134f6df01d9b66adb74563fe27dfc4", func := "commonplace/commonplacelaw.RunTells", spec := "runTells", unfollowed := true, recurses := true, apart := false }
def RunTellsSaid : Prop := runTellsRow.holds Try.pinned (OpenSpec.ofChange runTellsSpec)

/-- ITS FALSE NEIGHBOUR: 'it returns false'. Refute it at one input. -/
def runTellsWrong : ChangeSpec := { name := "runTells", fn := fun _ => fun
  | [d1, d2] => { results := [.lit (.bool false)], args := [d1, d2] }
  | _ => none }
def RunTellsWrongFalsely : Prop := runTellsRow.holds Try.pinned (OpenSpec.ofChange runTellsWrong)

/-- 'commonplacelaw.RunBack': WHATEVER THE INPUT: true; the input reads as it did. -/
def runBackSpec : ChangeSpec := { name := "runBack", fn := fun _ => fun
  | [d] => { results := [.lit (.bool true)], args := [d] }
  | _ => none }
def runBackRow : OpenClaim := { program := "ythkhkbjkbpgaoaa", sum := "a09eff39f29236606bef8d3d8202443a8c134f6df01d9b66adb74563fe27dfc4", func := "commonplace/commonplacelaw.RunBack", spec := "runBack", unfollowed := true, recurses := true, apart := false }
def RunBackSaid : Prop := runBackRow.holds Try.pinned (OpenSpec.ofChange runBackSpec)

/-- ITS FALSE NEIGHBOUR: 'it returns false'. Refute it at one input. -/
def runBackWrong : ChangeSpec := { name := "runBack", fn := fun _ => fun
  | [d] => { results := [.lit (.bool false)], args := [d] }
  | _ => none }
def RunBackWrongFalsely : Prop := runBackRow.holds Try.pinned (OpenSpec.ofChange runBackWrong)

/-- 'commonplacelaw.RunCut': WHATEVER THE INPUT: true; the input reads as it did. -/
def runCutSpec : ChangeSpec := { name := "runCut", fn := fun _ => fun
  | [d1, d2] => { results := [.lit (.bool true)], args := [d1, d2] }
  | _ => none }
def runCutRow : OpenClaim := { program := "ythkhkbjkbpgaoaa", sum := "a09eff39f29236606bef8d3d8202443a8c134f6df01d9b66adb74563fe27dfc4", func := "commonplace/commonplacelaw.RunCut", spec := "runCut", unfollowed := true, recurses := true, apart := false }
def RunCutSaid : Prop := runCutRow.holds Try.pinned (OpenSpec.ofChange runCutSpec)

/-- ITS FALSE NEIGHBOUR: 'it returns false'. Refute it at one input. -/
def runCutWrong : ChangeSpec := { name := "runCut", fn := fun _ => fun
  | [d1, d2] => { results := [.lit (.bool false)], args := [d1, d2] }
  | _ => none }
def RunCutWrongFalsely : Prop := runCutRow.holds Try.pinned (OpenSpec.ofChange runCutWrong)

/-- 'commonplacelaw.CaretBack': WHATEVER THE INPUT: true; the input reads as it did. -/
def caretBackSpec : ChangeSpec := { name := "caretBack", fn := fun _ => fun
  | [d1, d2, d3] => { results := [.lit (.bool true)], args := [d1, d2, d3] }
  | _ => none }
def caretBackRow : OpenClaim := { program := "ythkhkbjkbpgaoaa", sum := "a09eff39f29236606bef8d3d8202443a8c134f6df01d9b66adb74563fe27dfc4", func := "commonplace/commonplacelaw.CaretBack", spec := "caretBack", unfollowed := true, recurses := true, apart := false }
def CaretBackSaid : Prop := caretBackRow.holds Try.pinned (OpenSpec.ofChange caretBackSpec)

/-- ITS FALSE NEIGHBOUR: 'it returns false'. Refute it at one input. -/
def caretBackWrong : ChangeSpec := { name := "caretBack", fn := fun _ => fun
  | [d1, d2, d3] => { results := [.lit (.bool false)], args := [d1, d2, d3] }
  | _ => none }
def CaretBackWrongFalsely : Prop := caretBackRow.holds Try.pinned (OpenSpec.ofChange caretBackWrong)

/- THE SECOND FORM. 'bulk': how many values and letters a reading holds, each counted each time it is reached (what is shared counts as often as it is met; a slice's spare places count too). A statement '..UptoSaid' is the law's where the arguments, and the package variables that the reading takes, are together of bulk at most 1048576: NARROWER than '..Said'. Prove '..Said' where nothing that the law and all that it calls make is longer than what came in: it says more and counts as full. Else prove '..UptoSaid'. A law counts once. -/
mutual
def uptoBulk {H : Type} : DataW H → Nat
  | .lit (.string bytes) => bytes.length + 1
  | .lit _ => 1
  | .nil => 1
  | .ptr d => uptoBulk d + 1
  | .slice elems spare => uptoBulkAll elems + uptoBulkAll spare + 1
  | .agg parts => uptoBulkAll parts + 1
  | .iface _ d => uptoBulk d + 1
  | .map entries => uptoBulkEntries entries + 1
  | .held _ => 1
def uptoBulkAll {H : Type} : List (DataW H) → Nat
  | [] => 0
  | d :: r => uptoBulk d + uptoBulkAll r
def uptoBulkEntries {H : Type} : List (Lit × DataW H) → Nat
  | [] => 0
  | x :: r => uptoBulkEntry x + uptoBulkEntries r
def uptoBulkEntry {H : Type} : Lit × DataW H → Nat
  | (.string bytes, d) => bytes.length + uptoBulk d + 1
  | (_, d) => uptoBulk d + 1
 end
def uptoSmall : (H : Type) → List (DataW H) → Bool := fun _ ds => decide (uptoBulkAll ds ≤ 1048576)
def OpenSpec.upto (s : _root_.Go.ChangeSpec) : _root_.Go.OpenSpec := { _root_.Go.OpenSpec.ofChange s with cond := some uptoSmall }

/-- 'commonplacelaw.DiffPlays', WHERE WHAT IT READS IS OF BULK AT MOST 1048576: true; the input reads as it did. -/
def diffPlaysUptoRow : OpenClaim := { program := "ythkhkbjkbpgaoaa", sum := "a09eff39f29236606bef8d3d8202443a8c134f6df01d9b66adb74563fe27dfc4", func := "commonplace/commonplacelaw.DiffPlays", spec := "diffPlays", unfollowed := true, recurses := true, apart := false, narrowed := true }
def DiffPlaysUptoSaid : Prop := diffPlaysUptoRow.holds Try.pinned (OpenSpec.upto diffPlaysSpec)

/-- 'commonplacelaw.DiffLeads', WHERE WHAT IT READS IS OF BULK AT MOST 1048576: true; the input reads as it did. -/
def diffLeadsUptoRow : OpenClaim := { program := "ythkhkbjkbpgaoaa", sum := "a09eff39f29236606bef8d3d8202443a8c134f6df01d9b66adb74563fe27dfc4", func := "commonplace/commonplacelaw.DiffLeads", spec := "diffLeads", unfollowed := true, recurses := true, apart := false, narrowed := true }
def DiffLeadsUptoSaid : Prop := diffLeadsUptoRow.holds Try.pinned (OpenSpec.upto diffLeadsSpec)

/-- 'commonplacelaw.DiffNear', WHERE WHAT IT READS IS OF BULK AT MOST 1048576: true; the input reads as it did. -/
def diffNearUptoRow : OpenClaim := { program := "ythkhkbjkbpgaoaa", sum := "a09eff39f29236606bef8d3d8202443a8c134f6df01d9b66adb74563fe27dfc4", func := "commonplace/commonplacelaw.DiffNear", spec := "diffNear", unfollowed := true, recurses := true, apart := false, narrowed := true }
def DiffNearUptoSaid : Prop := diffNearUptoRow.holds Try.pinned (OpenSpec.upto diffNearSpec)

/-- 'commonplacelaw.CaretTells', WHERE WHAT IT READS IS OF BULK AT MOST 1048576: true; the input reads as it did. -/
def caretTellsUptoRow : OpenClaim := { program := "ythkhkbjkbpgaoaa", sum := "a09eff39f29236606bef8d3d8202443a8c134f6df01d9b66adb74563fe27dfc4", func := "commonplace/commonplacelaw.CaretTells", spec := "caretTells", unfollowed := true, recurses := true, apart := false, narrowed := true }
def CaretTellsUptoSaid : Prop := caretTellsUptoRow.holds Try.pinned (OpenSpec.upto caretTellsSpec)

/-- 'commonplacelaw.MarkTells', WHERE WHAT IT READS IS OF BULK AT MOST 1048576: true; the input reads as it did. -/
def markTellsUptoRow : OpenClaim := { program := "ythkhkbjkbpgaoaa", sum := "a09eff39f29236606bef8d3d8202443a8c134f6df01d9b66adb74563fe27dfc4", func := "commonplace/commonplacelaw.MarkTells", spec := "markTells", unfollowed := true, recurses := true, apart := false, narrowed := true }
def MarkTellsUptoSaid : Prop := markTellsUptoRow.holds Try.pinned (OpenSpec.upto markTellsSpec)

/-- 'commonplacelaw.MarkBetween', WHERE WHAT IT READS IS OF BULK AT MOST 1048576: true; the input reads as it did. -/
def markBetweenUptoRow : OpenClaim := { program := "ythkhkbjkbpgaoaa", sum := "a09eff39f29236606bef8d3d8202443a8c134f6df01d9b66adb74563fe27dfc4", func := "commonplace/commonplacelaw.MarkBetween", spec := "markBetween", unfollowed := true, recurses := true, apart := false, narrowed := true }
def MarkBetweenUptoSaid : Prop := markBetweenUptoRow.holds Try.pinned (OpenSpec.upto markBetweenSpec)

/-- 'commonplacelaw.MarkOrders', WHERE WHAT IT READS IS OF BULK AT MOST 1048576: true; the input reads as it did. -/
def markOrdersUptoRow : OpenClaim := { program := "ythkhkbjkbpgaoaa", sum := "a09eff39f29236606bef8d3d8202443a8c134f6df01d9b66adb74563fe27dfc4", func := "commonplace/commonplacelaw.MarkOrders", spec := "markOrders", unfollowed := true, recurses := true, apart := false, narrowed := true }
def MarkOrdersUptoSaid : Prop := markOrdersUptoRow.holds Try.pinned (OpenSpec.upto markOrdersSpec)

/-- 'commonplacelaw.MarkNext', WHERE WHAT IT READS IS OF BULK AT MOST 1048576: true; the input reads as it did. -/
def markNextUptoRow : OpenClaim := { program := "ythkhkbjkbpgaoaa", sum := "a09eff39f29236606bef8d3d8202443a8c134f6df01d9b66adb74563fe27dfc4", func := "commonplace/commonplacelaw.MarkNext", spec := "markNext", unfollowed := true, recurses := true, apart := false, narrowed := true }
def MarkNextUptoSaid : Prop := markNextUptoRow.holds Try.pinned (OpenSpec.upto markNextSpec)

/-- 'commonplacelaw.RunTells', WHERE WHAT IT READS IS OF BULK AT MOST 1048576: true; the input reads as it did. -/
def runTellsUptoRow : OpenClaim := { program := "ythkhkbjkbpgaoaa", sum := "a09eff39f29236606bef8d3d8202443a8c134f6df01d9b66adb74563fe27dfc4", func := "commonplace/commonplacelaw.RunTells", spec := "runTells", unfollowed := true, recurses := true, apart := false, narrowed := true }
def RunTellsUptoSaid : Prop := runTellsUptoRow.holds Try.pinned (OpenSpec.upto runTellsSpec)

/-- 'commonplacelaw.RunBack', WHERE WHAT IT READS IS OF BULK AT MOST 1048576: true; the input reads as it did. -/
def runBackUptoRow : OpenClaim := { program := "ythkhkbjkbpgaoaa", sum := "a09eff39f29236606bef8d3d8202443a8c134f6df01d9b66adb74563fe27dfc4", func := "commonplace/commonplacelaw.RunBack", spec := "runBack", unfollowed := true, recurses := true, apart := false, narrowed := true }
def RunBackUptoSaid : Prop := runBackUptoRow.holds Try.pinned (OpenSpec.upto runBackSpec)

/-- 'commonplacelaw.RunCut', WHERE WHAT IT READS IS OF BULK AT MOST 1048576: true; the input reads as it did. -/
def runCutUptoRow : OpenClaim := { program := "ythkhkbjkbpgaoaa", sum := "a09eff39f29236606bef8d3d8202443a8c134f6df01d9b66adb74563fe27dfc4", func := "commonplace/commonplacelaw.RunCut", spec := "runCut", unfollowed := true, recurses := true, apart := false, narrowed := true }
def RunCutUptoSaid : Prop := runCutUptoRow.holds Try.pinned (OpenSpec.upto runCutSpec)

/-- 'commonplacelaw.CaretBack', WHERE WHAT IT READS IS OF BULK AT MOST 1048576: true; the input reads as it did. -/
def caretBackUptoRow : OpenClaim := { program := "ythkhkbjkbpgaoaa", sum := "a09eff39f29236606bef8d3d8202443a8c134f6df01d9b66adb74563fe27dfc4", func := "commonplace/commonplacelaw.CaretBack", spec := "caretBack", unfollowed := true, recurses := true, apart := false, narrowed := true }
def CaretBackUptoSaid : Prop := caretBackUptoRow.holds Try.pinned (OpenSpec.upto caretBackSpec)

end Rows
end Go.Proofs.Ythkhkbjkbpgaoaa
