/- Notes pulled. -/
import Derived.Test.YtiladkinndgeaaaQ6b42c172b7
import Derived.Test.YtiladkinndgeaaaQ250d4f11f0
import Derived.Test.YtiladkinndgeaaaQ88da264e40
import Derived.Deep.CutRange
set_option linter.unusedVariables false
set_option linter.unusedSimpArgs false
namespace Go.Proofs.Ytiladkinndgeaaa
open Go Go.RowKit Go.BigFrame Cp

end Go.Proofs.Ytiladkinndgeaaa
/- What must be in any case, of relays. -/
namespace Go.Proofs.Ytiladkinndgeaaa
open Go Go.RowKit Go.BigFrame Cp

/-- a new note, its slices by name -/
def IsNoteS (w : World) (e : Ending) (w' : World) : Prop := ∃ (a : Option Addr) (n c : Nat) (b : Option Addr) (m d : Nat), e = .returned (.agg #[.int .i64 noteN.site, .int .i64 noteN.number, .slice a n c, .slice b m d]) ∧ RNo (fun k => w.heap.size ≤ k) w' [.int .i64 noteN.site, .int .i64 noteN.number, .slice a n c, .slice b m d] noteN ∧ Ext w w'
theorem noteN_any (w : World) : Calls Try.prog 38 #[] w (IsNoteS w) := by
  refine (note_any w).mono ?_
  rintro e w' ⟨v, u, rfl, hn, hx⟩
  have hn' := hn
  obtain ⟨v', u', he, _, _, hv, hu⟩ := hn'
  obtain ⟨a, n, c, rfl⟩ := hv.slice
  obtain ⟨b, m, d, rfl⟩ := hu.slice
  injection he with _ he
  injection he with _ he
  injection he with e1 he
  injection he with e2 _
  subst e1
  subst e2
  exact ⟨a, n, c, b, m, d, rfl, hn, hx⟩
section
variable {F G : Nat → Prop} {w : World} {v : Value} {cs : List Value}
end
end Go.Proofs.Ytiladkinndgeaaa
