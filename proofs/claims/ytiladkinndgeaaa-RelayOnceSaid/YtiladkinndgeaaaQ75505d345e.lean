/- slices.Insert, of one atom. -/
import Derived.Test.YtiladkinndgeaaaQ7a04ac2d17
import Derived.Lib.Overlaps
import Derived.Lib.AppendZeros
import Derived.Lib.AppendZerosOnto
import Derived.Laws.CopyRow
import Derived.Laws.Externs
import Derived.Deep.RegionLaw
import Derived.Test.YtiladkinndgeaaaQe4d63bfa69
import Derived.Test.YtiladkinndgeaaaQf69f251b3b
set_option linter.unusedVariables false
set_option linter.unusedSimpArgs false
namespace Go.Proofs.Ytiladkinndgeaaa
open Go Go.RowKit Go.BigFrame Cp

section
variable {P : Program}
end
end Go.Proofs.Ytiladkinndgeaaa
/- slices.Insert, of one atom, into atoms of one's own. -/
namespace Go.Proofs.Ytiladkinndgeaaa
open Go Go.RowKit Go.BigFrame Cp

section
variable {α : Type} {R : Rd α} {sz : Nat} {F : Nat → Prop} {w : World} {xs : List Value} {l : List α}
end
end Go.Proofs.Ytiladkinndgeaaa
/- Rows of one's own: an element written, elements cleared. -/
namespace Go.Proofs.Ytiladkinndgeaaa
open Go Go.RowKit Go.BigFrame Cp

section
variable {P : Program}
end
end Go.Proofs.Ytiladkinndgeaaa
/- slices.Delete, of one atom. -/
namespace Go.Proofs.Ytiladkinndgeaaa
open Go Go.RowKit Go.BigFrame Cp

section
variable {P : Program}
end
end Go.Proofs.Ytiladkinndgeaaa
/- slices.Insert, of one mark, into marks of one's own. -/
namespace Go.Proofs.Ytiladkinndgeaaa
open Go Go.RowKit Go.BigFrame Cp

end Go.Proofs.Ytiladkinndgeaaa
/- Who does deeds: the state that is worked on, as it lies; what is gone of it. -/
namespace Go.Proofs.Ytiladkinndgeaaa
open Go Go.RowKit Go.BigFrame Cp

/-- the blocks of Z are as they were -/
structure Kept (Z : Nat → Prop) (w w' : World) : Prop where
  os : w'.os = w.os
  tape : w'.tape = w.tape
  output : w'.output = w.output
  size : w.heap.size ≤ w'.heap.size
  block : ∀ k, Z k → k < w.heap.size → w'.heap[k]? = w.heap[k]?
section
variable {Z : Nat → Prop} {a w w' : World}
theorem Kept.cell (h : Kept Z w w') {b : Nat} (hz : Z b) (hb : b < w.heap.size) (o : Nat) : w'.cell? ⟨b, o, none⟩ = w.cell? ⟨b, o, none⟩ := World.cell?_of_block (a := ⟨b, o, none⟩) (h.block b hz hb)
theorem Kept.frz (h : Kept Z w w') {b : Nat} (hz : Z b) (hb : b < w.heap.size) (o : Nat) : w'.frozen? ⟨b, o, none⟩ = w.frozen? ⟨b, o, none⟩ := World.frozen?_of_block (a := ⟨b, o, none⟩) (h.block b hz hb)
end
section
variable {Z : Nat → Prop} {B b : Nat} {s : St} {w w' : World} {v u : Value}
end
end Go.Proofs.Ytiladkinndgeaaa
/- Who does deeds: a mark is taken. -/
namespace Go.Proofs.Ytiladkinndgeaaa
open Go Go.RowKit Go.BigFrame Cp

section
variable {Z : Nat → Prop} {B b : Nat} {s : St} {w w4 : World} {v u v4 u4 : Value}
end
end Go.Proofs.Ytiladkinndgeaaa
/- Atoms that are put among atoms, by the program. -/
namespace Go.Proofs.Ytiladkinndgeaaa
open Go Go.RowKit Go.BigFrame Cp

end Go.Proofs.Ytiladkinndgeaaa
