/- slices.Insert, of one atom. -/
import Derived.Test.YtiladkinndgeaaaQ319ddb3856
import Derived.Lib.Overlaps
import Derived.Lib.AppendZeros
import Derived.Lib.AppendZerosOnto
import Derived.Laws.CopyRow
import Derived.Laws.Externs
import Derived.Deep.RegionLaw
import Derived.Test.YtiladkinndgeaaaQ9649f021f5
set_option linter.unusedVariables false
set_option linter.unusedSimpArgs false
namespace Go.Proofs.Ytiladkinndgeaaa
open Go Go.RowKit Go.BigFrame Cp

section
variable {P : Program}
end
end Go.Proofs.Ytiladkinndgeaaa
/- slices.Insert, of one atom, into atoms of one's own. -/
namespace Go.Proofs.Ytiladkinndgeaaa
open Go Go.RowKit Go.BigFrame Cp

section
variable {α : Type} {R : Rd α} {sz : Nat} {F : Nat → Prop} {w : World} {xs : List Value} {l : List α}
end
end Go.Proofs.Ytiladkinndgeaaa
/- Rows of one's own: an element written, elements cleared. -/
namespace Go.Proofs.Ytiladkinndgeaaa
open Go Go.RowKit Go.BigFrame Cp

section
variable {P : Program}
end
end Go.Proofs.Ytiladkinndgeaaa
/- slices.Delete, of one atom. -/
namespace Go.Proofs.Ytiladkinndgeaaa
open Go Go.RowKit Go.BigFrame Cp

section
variable {P : Program}
end
end Go.Proofs.Ytiladkinndgeaaa
/- slices.Insert, of one mark, into marks of one's own. -/
namespace Go.Proofs.Ytiladkinndgeaaa
open Go Go.RowKit Go.BigFrame Cp

end Go.Proofs.Ytiladkinndgeaaa
/- Who does deeds: the state that is worked on, as it lies; what is gone of it. -/
namespace Go.Proofs.Ytiladkinndgeaaa
open Go Go.RowKit Go.BigFrame Cp

/-- the blocks of Z are as they were -/
structure Kept (Z : Nat → Prop) (w w' : World) : Prop where
  os : w'.os = w.os
  tape : w'.tape = w.tape
  output : w'.output = w.output
  size : w.heap.size ≤ w'.heap.size
  block : ∀ k, Z k → k < w.heap.size → w'.heap[k]? = w.heap[k]?
section
variable {Z : Nat → Prop} {a w w' : World}
theorem kept_refl : Kept Z w w := ⟨rfl, rfl, rfl, Nat.le_refl _, fun _ _ _ => rfl⟩
theorem kept_trans {b c : World} (h : Kept Z a b) (k : Kept Z b c) : Kept Z a c :=
  ⟨k.os.trans h.os, k.tape.trans h.tape, k.output.trans h.output, Nat.le_trans h.size k.size, fun i hi hl => (k.block i hi (Nat.lt_of_lt_of_le hl h.size)).trans (h.block i hi hl)⟩
theorem kept_ext (h : Ext w w') : Kept Z w w' := ⟨Below.os h, Below.tape h, Below.output h, Below.size h, fun k _ hk => Below.block h k hk⟩
theorem kept_grown {row : Option Nat} (h : w.grownBy w' row) (hr : ∀ k, Z k → some k ≠ row) : Kept Z w w' := ⟨h.os, h.tape, h.output, h.size, fun k hk hl => h.block k hl (hr k hk)⟩
theorem kept_set (h : Kept Z a w) {p : Addr} (hp : ¬ Z p.block) (u : Value) : Kept Z a (w.setCell p u) :=
  ⟨by simpa [World.setCell] using h.os, by simpa [World.setCell] using h.tape, by simpa [World.setCell] using h.output, by simpa [World.setCell] using h.size,
   fun k hk hl => (Below.heap_setCell w p u k (fun e => by subst e; exact hp hk)).trans (h.block k hk hl)⟩
theorem Kept.toExt (h : Kept Z w w') (k : Ext a w) (hz : ∀ j, j < a.heap.size → Z j) : Ext a w' := by
  have k' : Below a.heap.size a w := k
  exact (⟨h.os.trans k'.os, h.tape.trans k'.tape, h.output.trans k'.output, Nat.le_trans k'.size h.size, fun j hj => (h.block j (hz j hj) (Nat.lt_of_lt_of_le hj k'.size)).trans (k'.block j hj)⟩ : Below a.heap.size a w')
theorem Kept.cell (h : Kept Z w w') {b : Nat} (hz : Z b) (hb : b < w.heap.size) (o : Nat) : w'.cell? ⟨b, o, none⟩ = w.cell? ⟨b, o, none⟩ := World.cell?_of_block (a := ⟨b, o, none⟩) (h.block b hz hb)
theorem Kept.frz (h : Kept Z w w') {b : Nat} (hz : Z b) (hb : b < w.heap.size) (o : Nat) : w'.frozen? ⟨b, o, none⟩ = w.frozen? ⟨b, o, none⟩ := World.frozen?_of_block (a := ⟨b, o, none⟩) (h.block b hz hb)
theorem Kept.keeps (h : Kept Z w w') : Keeps Z w w' := ⟨h.size, fun k hk hl => h.block k hk hl⟩
theorem Kept.less {Y : Nat → Prop} (h : Kept Z w w') (hy : ∀ k, Y k → Z k) : Kept Y w w' := ⟨h.os, h.tape, h.output, h.size, fun k hk hl => h.block k (hy k hk) hl⟩
end
section
variable {Z : Nat → Prop} {B b : Nat} {s : St} {w w' : World} {v u : Value}
end
end Go.Proofs.Ytiladkinndgeaaa
/- Who does deeds: a mark is taken. -/
namespace Go.Proofs.Ytiladkinndgeaaa
open Go Go.RowKit Go.BigFrame Cp

section
variable {Z : Nat → Prop} {B b : Nat} {s : St} {w w4 : World} {v u v4 u4 : Value}
end
end Go.Proofs.Ytiladkinndgeaaa
/- Atoms that are put among atoms, by the program. -/
namespace Go.Proofs.Ytiladkinndgeaaa
open Go Go.RowKit Go.BigFrame Cp

end Go.Proofs.Ytiladkinndgeaaa
