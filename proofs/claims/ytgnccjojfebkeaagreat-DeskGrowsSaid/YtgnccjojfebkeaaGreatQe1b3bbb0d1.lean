/- Small laws that all walks share. -/
import Derived.WalkKit
import Derived.WalkSpells
import Derived.WalkLawsBesides
import Derived.Lib.Hide
import Derived.Deep.RegionHeld3
import Derived.StillTailTactics
import Derived.Deep.QuietTactic
import Derived.BigQuiet
import Derived.Deep.Draws
import Derived.Deep.RegionWith
import Derived.Test.YtgnccjojfebkeaaGreatQ7ca6115a38
import Derived.Test.YtgnccjojfebkeaaGreatQb497ca1fba
set_option linter.unusedVariables false
set_option linter.unusedSimpArgs false
set_option maxRecDepth 100000
namespace Cp
open Go Go.RowKit
theorem cC5 {w w':World} (h:Ext w w') (b:Nat) (v0 v1 v2 v3 v4:Value) (z:b<w.heap.size:=by first|omega|(simp<;>omega)) (e0:w.cell? ⟨b,0,none⟩=some v0:=by first|(with_reducible assumption)|go_simp) (e1:w.cell? ⟨b,1,none⟩=some v1:=by first|(with_reducible assumption)|go_simp) (e2:w.cell? ⟨b,2,none⟩=some v2:=by first|(with_reducible assumption)|go_simp) (e3:w.cell? ⟨b,3,none⟩=some v3:=by first|(with_reducible assumption)|go_simp) (e4:w.cell? ⟨b,4,none⟩=some v4:=by first|(with_reducible assumption)|go_simp):w'.cell? ⟨b,0,none⟩=some v0∧w'.cell? ⟨b,1,none⟩=some v1∧w'.cell? ⟨b,2,none⟩=some v2∧w'.cell? ⟨b,3,none⟩=some v3∧w'.cell? ⟨b,4,none⟩=some v4:=⟨(h.cells b 0 z).trans e0,(h.cells b 1 z).trans e1,(h.cells b 2 z).trans e2,(h.cells b 3 z).trans e3,(h.cells b 4 z).trans e4⟩
theorem rR5 {w w':World} (h:w'=w) (b:Nat) (v0 v1 v2 v3 v4:Value) (e0:w.cell? ⟨b,0,none⟩=some v0:=by go_simp) (e1:w.cell? ⟨b,1,none⟩=some v1:=by go_simp) (e2:w.cell? ⟨b,2,none⟩=some v2:=by go_simp) (e3:w.cell? ⟨b,3,none⟩=some v3:=by go_simp) (e4:w.cell? ⟨b,4,none⟩=some v4:=by go_simp):w'.cell? ⟨b,0,none⟩=some v0∧w'.cell? ⟨b,1,none⟩=some v1∧w'.cell? ⟨b,2,none⟩=some v2∧w'.cell? ⟨b,3,none⟩=some v3∧w'.cell? ⟨b,4,none⟩=some v4:=⟨h▸e0,h▸e1,h▸e2,h▸e3,h▸e4⟩
end Cp
