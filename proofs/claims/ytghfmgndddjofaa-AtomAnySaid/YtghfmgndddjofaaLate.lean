/- A region that draws its order, whose operations read, and whose callees make memory of their own and leave all that lay there alone: one walk, in the order of the text. -/
import Derived.Test.YtghfmgndddjofaaLib
import Derived.Deep.QuietTactic
import Derived.BigQuiet
set_option linter.unusedVariables false
set_option linter.unusedSimpArgs false
namespace Cp
open Go Go.RowKit

/-- a world in which all that lay in w is as it was -/
structure Later (w : World) where
  at_ : World
  ext : Ext w at_

instance later_some {w : World} : Nonempty (Later w) := ⟨⟨w, ext_refl w⟩⟩
theorem Later.cells {w : World} (u : Later w) : ∀ b o, b < w.heap.size → u.at_.cell? ⟨b, o, none⟩ = w.cell? ⟨b, o, none⟩ := u.ext.cells
theorem wp_region_later {P : Program} {id : Nat} {Q : Exit → Act → World → Prop} {a : Act} {w : World} {l : List Oper} (hm : P.follows .mixedOrders = true) (hB : Region.lexB .any l.toArray = true)
    (h : (∀ (u : Later w) b o, b < w.heap.size → u.at_.cell? ⟨b, o, none⟩ = w.cell? ⟨b, o, none⟩) →
      wpQuiet P l.toArray (fun W => ∃ u : Later w, W = u.at_) (fun a' => ∀ w', (∃ u : Later w, w' = u.at_) → Q .normal a' w') l a) : (Code.region id l.toArray true).wp P Q a w :=
  wp_region_quiet (C := fun W => ∃ u : Later w, W = u.at_) hm hB ⟨⟨w.drew, ext_drew (ext_refl _)⟩, rfl⟩ (h fun u => u.cells)
/-- the world gets a name -/
theorem wp_name {P : Program} {c : Code} {Q : Exit → Act → World → Prop} {a : Act} {w : World} (h : ∀ W, W = w → Code.wp P c Q a W) : Code.wp P c Q a w := h w rfl
theorem later_of {P : Program} {f : FuncId} {args : Array Value} {w : World} {u : Later w} {v : Value} (h : Calls P f args u.at_ fun e w' => e = .returned v ∧ Ext u.at_ w') :
    Calls P f args u.at_ fun e w'' => e = .returned v ∧ ∃ u' : Later w, w'' = u'.at_ :=
  h.mono fun _ w' ⟨he, hx⟩ => ⟨he, ⟨w', ext_trans u.ext hx⟩, rfl⟩
theorem later_same {P : Program} {f : FuncId} {args : Array Value} {w : World} {u : Later w} {v : Value} (h : Calls P f args u.at_ fun e w' => e = .returned v ∧ u.at_ = w') :
    Calls P f args u.at_ fun e w'' => e = .returned v ∧ ∃ u' : Later w, w'' = u'.at_ :=
  h.mono fun _ _ ⟨he, hx⟩ => ⟨he, u, hx.symm⟩
end Cp
