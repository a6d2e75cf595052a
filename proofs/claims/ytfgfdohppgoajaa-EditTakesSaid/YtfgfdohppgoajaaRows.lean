/-
  No cell of these rows narrows 'for every input' (looked for: loops, veiled, ifaces, maps, wideKeys, modest, calm, conditions, laid).
  DERIVED. THE GIVEN ROWS OF THIS SEAT. 7 by the template 'for every input the law returns true; each argument reads behind the call as it read before'; 0 by the template 'total and deterministic' (their statements: YtfgfdohppgoajaaTotals.lean).
  GIVEN WITH THE SEED: the statements are not yours to turn. If you find one false, say at which input.
  Laid BY PROGRAM, IN A SANDBOX (cutbox-rows.mjs): the forced cells as the released guide's own fill.sh prints them over the translation 43271ec57ff62161… (all of the seat's roots in one cut). By AI agents, Wed Nov 11 2026. No macro, syntax, notation, axiom, sorry.
-/
import Derived.Test.YtfgfdohppgoajaaChecked
import GoSem.Claim
import GoSem.ClaimJoined
import GoSem.ClaimMapViews
import Derived.JoinedTies
import Derived.KernelRfl
namespace Go.Proofs.Ytfgfdohppgoajaa
/- THE CELL 'sum', in the pinned program and in every row, IS THE sha256 OF THE DUMP (.gsa) THAT YtfgfdohppgoajaaProg.lean LOADS. Nothing in Lean hashes anything: it is a label: what it is worth is what the hold of that sum in a sandbox is worth. -/
noncomputable def Try.pinned : Pinned := { name := "ytfgfdohppgoajaa", sum := "43271ec57ff6216139fac3d14a8dcb3da83df747476194027ae7c56e34d8d413", checked := Try.checked }
namespace Rows
def none {H : Type} : Left H := { results := [], args := [] }

/-- 'commonplacelaw.StateDoes': WHATEVER THE INPUT: true; the input reads as it did. -/
def stateDoesSpec : ChangeSpec := { name := "stateDoes", fn := fun _ => fun
  | [d1, d2, d3] => { results := [.lit (.bool true)], args := [d1, d2, d3] }
  | _ => none }
def stateDoesRow : OpenClaim := { program := "ytfgfdohppgoajaa", sum := "43271ec57ff6216139fac3d14a8dcb3da83df747476194027ae7c56e34d8d413", func := "commonplace/commonplacelaw.StateDoes", spec := "stateDoes", inPlace := ["slices.overlaps[commonplace/api.Atom]", "slices.overlaps[commonplace/api.Mark]"], unfollowed := true, recurses := true, apart := false }
def StateDoesSaid : Prop := stateDoesRow.holds Try.pinned (OpenSpec.ofChange stateDoesSpec)

/-- ITS FALSE NEIGHBOUR: 'it returns false'. Refute it at one input. -/
def stateDoesWrong : ChangeSpec := { name := "stateDoes", fn := fun _ => fun
  | [d1, d2, d3] => { results := [.lit (.bool false)], args := [d1, d2, d3] }
  | _ => none }
def StateDoesWrongFalsely : Prop := stateDoesRow.holds Try.pinned (OpenSpec.ofChange stateDoesWrong)

/-- 'commonplacelaw.StateAny': WHATEVER THE INPUT: true; the input reads as it did. -/
def stateAnySpec : ChangeSpec := { name := "stateAny", fn := fun _ => fun
  | [d1, d2, d3] => { results := [.lit (.bool true)], args := [d1, d2, d3] }
  | _ => none }
def stateAnyRow : OpenClaim := { program := "ytfgfdohppgoajaa", sum := "43271ec57ff6216139fac3d14a8dcb3da83df747476194027ae7c56e34d8d413", func := "commonplace/commonplacelaw.StateAny", spec := "stateAny", inPlace := ["slices.overlaps[commonplace/api.Atom]", "slices.overlaps[commonplace/api.Mark]"], unfollowed := true, recurses := true, apart := false }
def StateAnySaid : Prop := stateAnyRow.holds Try.pinned (OpenSpec.ofChange stateAnySpec)

/-- ITS FALSE NEIGHBOUR: 'it returns false'. Refute it at one input. -/
def stateAnyWrong : ChangeSpec := { name := "stateAny", fn := fun _ => fun
  | [d1, d2, d3] => { results := [.lit (.bool false)], args := [d1, d2, d3] }
  | _ => none }
def StateAnyWrongFalsely : Prop := stateAnyRow.holds Try.pinned (OpenSpec.ofChange stateAnyWrong)

/-- 'commonplacelaw.StateGone': WHATEVER THE INPUT: true; the input reads as it did. -/
def stateGoneSpec : ChangeSpec := { name := "stateGone", fn := fun _ => fun
  | [d1, d2] => { results := [.lit (.bool true)], args := [d1, d2] }
  | _ => none }
def stateGoneRow : OpenClaim := { program := "ytfgfdohppgoajaa", sum := "43271ec57ff6216139fac3d14a8dcb3da83df747476194027ae7c56e34d8d413", func := "commonplace/commonplacelaw.StateGone", spec := "stateGone", inPlace := ["slices.overlaps[commonplace/api.Atom]", "slices.overlaps[commonplace/api.Mark]"], unfollowed := true, recurses := true, apart := false }
def StateGoneSaid : Prop := stateGoneRow.holds Try.pinned (OpenSpec.ofChange stateGoneSpec)

/-- ITS FALSE NEIGHBOUR: 'it returns false'. Refute it at one input. -/
def stateGoneWrong : ChangeSpec := { name := "stateGone", fn := fun _ => fun
  | [d1, d2] => { results := [.lit (.bool false)], args := [d1, d2] }
  | _ => none }
def StateGoneWrongFalsely : Prop := stateGoneRow.holds Try.pinned (OpenSpec.ofChange stateGoneWrong)

/-- 'commonplacelaw.CaretStays': WHATEVER THE INPUT: true; the input reads as it did. -/
def caretStaysSpec : ChangeSpec := { name := "caretStays", fn := fun _ => fun
  | [d1, d2, d3] => { results := [.lit (.bool true)], args := [d1, d2, d3] }
  | _ => none }
def caretStaysRow : OpenClaim := { program := "ytfgfdohppgoajaa", sum := "43271ec57ff6216139fac3d14a8dcb3da83df747476194027ae7c56e34d8d413", func := "commonplace/commonplacelaw.CaretStays", spec := "caretStays", inPlace := ["slices.overlaps[commonplace/api.Atom]", "slices.overlaps[commonplace/api.Mark]"], unfollowed := true, recurses := true, apart := false }
def CaretStaysSaid : Prop := caretStaysRow.holds Try.pinned (OpenSpec.ofChange caretStaysSpec)

/-- ITS FALSE NEIGHBOUR: 'it returns false'. Refute it at one input. -/
def caretStaysWrong : ChangeSpec := { name := "caretStays", fn := fun _ => fun
  | [d1, d2, d3] => { results := [.lit (.bool false)], args := [d1, d2, d3] }
  | _ => none }
def CaretStaysWrongFalsely : Prop := caretStaysRow.holds Try.pinned (OpenSpec.ofChange caretStaysWrong)

/-- 'commonplacelaw.EditPlain': WHATEVER THE INPUT: true; the input reads as it did. -/
def editPlainSpec : ChangeSpec := { name := "editPlain", fn := fun _ => fun
  | [d1, d2] => { results := [.lit (.bool true)], args := [d1, d2] }
  | _ => none }
def editPlainRow : OpenClaim := { program := "ytfgfdohppgoajaa", sum := "43271ec57ff6216139fac3d14a8dcb3da83df747476194027ae7c56e34d8d413", func := "commonplace/commonplacelaw.EditPlain", spec := "editPlain", unfollowed := true, recurses := true, apart := false }
def EditPlainSaid : Prop := editPlainRow.holds Try.pinned (OpenSpec.ofChange editPlainSpec)

/-- ITS FALSE NEIGHBOUR: 'it returns false'. Refute it at one input. -/
def editPlainWrong : ChangeSpec := { name := "editPlain", fn := fun _ => fun
  | [d1, d2] => { results := [.lit (.bool false)], args := [d1, d2] }
  | _ => none }
def EditPlainWrongFalsely : Prop := editPlainRow.holds Try.pinned (OpenSpec.ofChange editPlainWrong)

/-- 'commonplacelaw.EditPuts': WHATEVER THE INPUT: true; the input reads as it did. -/
def editPutsSpec : ChangeSpec := { name := "editPuts", fn := fun _ => fun
  | [d1, d2, d3, d4, d5] => { results := [.lit (.bool true)], args := [d1, d2, d3, d4, d5] }
  | _ => none }
def editPutsRow : OpenClaim := { program := "ytfgfdohppgoajaa", sum := "43271ec57ff6216139fac3d14a8dcb3da83df747476194027ae7c56e34d8d413", func := "commonplace/commonplacelaw.EditPuts", spec := "editPuts", unfollowed := true, recurses := true, apart := false }
def EditPutsSaid : Prop := editPutsRow.holds Try.pinned (OpenSpec.ofChange editPutsSpec)

/-- ITS FALSE NEIGHBOUR: 'it returns false'. Refute it at one input. -/
def editPutsWrong : ChangeSpec := { name := "editPuts", fn := fun _ => fun
  | [d1, d2, d3, d4, d5] => { results := [.lit (.bool false)], args := [d1, d2, d3, d4, d5] }
  | _ => none }
def EditPutsWrongFalsely : Prop := editPutsRow.holds Try.pinned (OpenSpec.ofChange editPutsWrong)

/-- 'commonplacelaw.EditTakes': WHATEVER THE INPUT: true; the input reads as it did. -/
def editTakesSpec : ChangeSpec := { name := "editTakes", fn := fun _ => fun
  | [d1, d2, d3] => { results := [.lit (.bool true)], args := [d1, d2, d3] }
  | _ => none }
def editTakesRow : OpenClaim := { program := "ytfgfdohppgoajaa", sum := "43271ec57ff6216139fac3d14a8dcb3da83df747476194027ae7c56e34d8d413", func := "commonplace/commonplacelaw.EditTakes", spec := "editTakes", unfollowed := true, recurses := true, apart := false }
def EditTakesSaid : Prop := editTakesRow.holds Try.pinned (OpenSpec.ofChange editTakesSpec)

/-- ITS FALSE NEIGHBOUR: 'it returns false'. Refute it at one input. -/
def editTakesWrong : ChangeSpec := { name := "editTakes", fn := fun _ => fun
  | [d1, d2, d3] => { results := [.lit (.bool false)], args := [d1, d2, d3] }
  | _ => none }
def EditTakesWrongFalsely : Prop := editTakesRow.holds Try.pinned (OpenSpec.ofChange editTakesWrong)

/- THE SECOND FORM. 'bulk': how many values and letters a reading holds, each counted each time it is reached (what is shared counts as often as it is met; a slice's spare places count too). A statement '..UptoSaid' is the law's where the arguments, and the package variables that the reading takes, are together of bulk at most 1048576: NARROWER than '..Said'. Prove '..Said' where nothing that the law and all that it calls make is longer than what came in: it says more and counts as full. Else prove '..UptoSaid'. A law counts once. -/
mutual
def uptoBulk {H : Type} : DataW H → Nat
  | .lit (.string bytes) => bytes.length + 1
  | .lit _ => 1
  | .nil => 1
  | .ptr d => uptoBulk d + 1
  | .slice elems spare => uptoBulkAll elems + uptoBulkAll spare + 1
  | .agg parts => uptoBulkAll parts + 1
  | .iface _ d => uptoBulk d + 1
  | .map entries => uptoBulkEntries entries + 1
  | .held _ => 1
def uptoBulkAll {H : Type} : List (DataW H) → Nat
  | [] => 0
  | d :: r => uptoBulk d + uptoBulkAll r
def uptoBulkEntries {H : Type} : List (Lit × DataW H) → Nat
  | [] => 0
  | x :: r => uptoBulkEntry x + uptoBulkEntries r
def uptoBulkEntry {H : Type} : Lit × DataW H → Nat
  | (.string bytes, d) => bytes.length + uptoBulk d + 1
  | (_, d) => uptoBulk d + 1
 end
def uptoSmall : (H : Type) → List (DataW H) → Bool := fun _ ds => decide (uptoBulkAll ds ≤ 1048576)
def OpenSpec.upto (s : _root_.Go.ChangeSpec) : _root_.Go.OpenSpec := { _root_.Go.OpenSpec.ofChange s with cond := some uptoSmall }

/-- 'commonplacelaw.StateDoes', WHERE WHAT IT READS IS OF BULK AT MOST 1048576: true; the input reads as it did. -/
def stateDoesUptoRow : OpenClaim := { program := "ytfgfdohppgoajaa", sum := "43271ec57ff6216139fac3d14a8dcb3da83df747476194027ae7c56e34d8d413", func := "commonplace/commonplacelaw.StateDoes", spec := "stateDoes", inPlace := ["slices.overlaps[commonplace/api.Atom]", "slices.overlaps[commonplace/api.Mark]"], unfollowed := true, recurses := true, apart := false, narrowed := true }
def StateDoesUptoSaid : Prop := stateDoesUptoRow.holds Try.pinned (OpenSpec.upto stateDoesSpec)

/-- 'commonplacelaw.StateAny', WHERE WHAT IT READS IS OF BULK AT MOST 1048576: true; the input reads as it did. -/
def stateAnyUptoRow : OpenClaim := { program := "ytfgfdohppgoajaa", sum := "43271ec57ff6216139fac3d14a8dcb3da83df747476194027ae7c56e34d8d413", func := "commonplace/commonplacelaw.StateAny", spec := "stateAny", inPlace := ["slices.overlaps[commonplace/api.Atom]", "slices.overlaps[commonplace/api.Mark]"], unfollowed := true, recurses := true, apart := false, narrowed := true }
def StateAnyUptoSaid : Prop := stateAnyUptoRow.holds Try.pinned (OpenSpec.upto stateAnySpec)

/-- 'commonplacelaw.StateGone', WHERE WHAT IT READS IS OF BULK AT MOST 1048576: true; the input reads as it did. -/
def stateGoneUptoRow : OpenClaim := { program := "ytfgfdohppgoajaa", sum := "43271ec57ff6216139fac3d14a8dcb3da83df747476194027ae7c56e34d8d413", func := "commonplace/commonplacelaw.StateGone", spec := "stateGone", inPlace := ["slices.overlaps[commonplace/api.Atom]", "slices.overlaps[commonplace/api.Mark]"], unfollowed := true, recurses := true, apart := false, narrowed := true }
def StateGoneUptoSaid : Prop := stateGoneUptoRow.holds Try.pinned (OpenSpec.upto stateGoneSpec)

/-- 'commonplacelaw.CaretStays', WHERE WHAT IT READS IS OF BULK AT MOST 1048576: true; the input reads as it did. -/
def caretStaysUptoRow : OpenClaim := { program := "ytfgfdohppgoajaa", sum := "43271ec57ff6216139fac3d14a8dcb3da83df747476194027ae7c56e34d8d413", func := "commonplace/commonplacelaw.CaretStays", spec := "caretStays", inPlace := ["slices.overlaps[commonplace/api.Atom]", "slices.overlaps[commonplace/api.Mark]"], unfollowed := true, recurses := true, apart := false, narrowed := true }
def CaretStaysUptoSaid : Prop := caretStaysUptoRow.holds Try.pinned (OpenSpec.upto caretStaysSpec)

/-- 'commonplacelaw.EditPlain', WHERE WHAT IT READS IS OF BULK AT MOST 1048576: true; the input reads as it did. -/
def editPlainUptoRow : OpenClaim := { program := "ytfgfdohppgoajaa", sum := "43271ec57ff6216139fac3d14a8dcb3da83df747476194027ae7c56e34d8d413", func := "commonplace/commonplacelaw.EditPlain", spec := "editPlain", unfollowed := true, recurses := true, apart := false, narrowed := true }
def EditPlainUptoSaid : Prop := editPlainUptoRow.holds Try.pinned (OpenSpec.upto editPlainSpec)

/-- 'commonplacelaw.EditPuts', WHERE WHAT IT READS IS OF BULK AT MOST 1048576: true; the input reads as it did. -/
def editPutsUptoRow : OpenClaim := { program := "ytfgfdohppgoajaa", sum := "43271ec57ff6216139fac3d14a8dcb3da83df747476194027ae7c56e34d8d413", func := "commonplace/commonplacelaw.EditPuts", spec := "editPuts", unfollowed := true, recurses := true, apart := false, narrowed := true }
def EditPutsUptoSaid : Prop := editPutsUptoRow.holds Try.pinned (OpenSpec.upto editPutsSpec)

/-- 'commonplacelaw.EditTakes', WHERE WHAT IT READS IS OF BULK AT MOST 1048576: true; the input reads as it did. -/
def editTakesUptoRow : OpenClaim := { program := "ytfgfdohppgoajaa", sum := "43271ec57ff6216139fac3d14a8dcb3da83df747476194027ae7c56e34d8d413", func := "commonplace/commonplacelaw.EditTakes", spec := "editTakes", unfollowed := true, recurses := true, apart := false, narrowed := true }
def EditTakesUptoSaid : Prop := editTakesUptoRow.holds Try.pinned (OpenSpec.upto editTakesSpec)

end Rows
end Go.Proofs.Ytfgfdohppgoajaa
