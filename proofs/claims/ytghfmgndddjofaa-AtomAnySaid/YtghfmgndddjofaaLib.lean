/- Small laws that all walks share. -/
import Derived.WalkKit
import Derived.WalkSpells
import Derived.WalkLawsBesides
import Derived.Lib.Hide
import Derived.Deep.RegionHeld3
import Derived.StillTailTactics
import Derived.Deep.QuietTactic
import Derived.BigQuiet
import Derived.Deep.Draws
import Derived.Deep.RegionWith
import Derived.Test.YtghfmgndddjofaaRep
set_option linter.unusedVariables false
set_option linter.unusedSimpArgs false
namespace Cp
open Go Go.RowKit

/-- nothing that lay in a has changed in w -/
def Ext (a w : World) : Prop := Below a.heap.size a w
theorem ext_refl (w : World) : Ext w w := Below.refl _ _
theorem ext_trans {a b c : World} (h : Ext a b) (k : Ext b c) : Ext a c := Below.trans h (Below.mono k h.size)
theorem ext_call {a b c : World} (h : Ext a b) (k : Ext b c) : Ext a c := ext_trans h k
theorem ext_drew {a w : World} (h : Ext a w) : Ext a w.drew := Below.drew h
theorem ext_drewN {a w : World} (h : Ext a w) (n : Nat) : Ext a (w.drewN n) := by
  have h' : Below a.heap.size a w := h
  exact ⟨h'.os, h'.tape, h'.output, h'.size, h'.block⟩
theorem ext_alloc {a w : World} (h : Ext a w) (o : Obj) : Ext a (w.alloc o) := Below.alloc h h.size o
theorem ext_set {a w : World} (h : Ext a w) {p : Addr} (hp : a.heap.size ≤ p.block) (u : Value) : Ext a (w.setCell p u) := Below.setCell h hp u
theorem ext_grown {a w w' : World} {row : Option Nat} (h : Ext a w) (hg : w.grownBy w' row) (hr : ∀ k, row = some k → a.heap.size ≤ k) : Ext a w' := Below.grown h hg h.size hr
theorem Ext.size {a w : World} (h : Ext a w) : a.heap.size ≤ w.heap.size := Below.size h
theorem Ext.cells {a w : World} (h : Ext a w) : ∀ b o, b < a.heap.size → w.cell? ⟨b, o, none⟩ = a.cell? ⟨b, o, none⟩ := fun _ o hb => Below.cell (p := ⟨_, o, none⟩) h hb
theorem Ext.frz {a w : World} (h : Ext a w) : ∀ b o, b < a.heap.size → w.frozen? ⟨b, o, none⟩ = a.frozen? ⟨b, o, none⟩ := fun _ o hb => Below.frozen (p := ⟨_, o, none⟩) h hb
theorem Ext.below {a w : World} (h : Ext a w) : Below a.heap.size a w := h
theorem Ext.range {a w : World} (h : Ext a w) {b o : Nat} {cs : List Value} (hb : b < a.heap.size) (hc : a.rangeAt b o cs) : w.rangeAt b o cs := rangeAt_block hc (Below.block h b hb)
theorem Good.ext {α : Type} {R : Rd α} (g : Good R) {F w w' cs x} (h : R F w cs x) (hb : Ext w w') : R F w' cs x := g.keep (.of_below hb) h
theorem RSl.ext {α : Type} {R : Rd α} (g : Good R) {sz F w w' v} {l : List α} (h : RSl R sz F w v l) (hb : Ext w w') : RSl R sz F w' v l := h.keep g (.of_below hb)

theorem keeps_set {F : Nat → Prop} {a w : World} (h : Keeps F a w) {p : Addr} (hp : p.block < a.heap.size → ¬ F p.block) (u : Value) : Keeps F a (w.setCell p u) :=
  ⟨by simpa [World.setCell] using h.size, fun k hk hl => (Below.heap_setCell w p u k (fun e => by subst e; exact hp hl hk)).trans (h.block k hk hl)⟩
theorem keeps_alloc {F : Nat → Prop} {a w : World} (h : Keeps F a w) (o : Obj) : Keeps F a (w.alloc o) :=
  ⟨Nat.le_trans h.size (by simp), fun k hk hl => (Below.heap_alloc w o k (Nat.lt_of_lt_of_le hl h.size)).trans (h.block k hk hl)⟩
theorem keeps_drew {F : Nat → Prop} {a w : World} (h : Keeps F a w) : Keeps F a w.drew := ⟨h.size, h.block⟩
theorem keeps_ext {F : Nat → Prop} {a w w' : World} (h : Keeps F a w) (k : Ext w w') : Keeps F a w' := h.trans (.of_below k)
theorem keeps_refl {F : Nat → Prop} {a : World} : Keeps F a a := .refl _ _
theorem rangeAt1 {w : World} {b o : Nat} {x : Value} (h0 : w.cell? ⟨b, o, none⟩ = some x) : w.rangeAt b o [x] := by
  intro j v hv
  match j, hv with
  | 0, hv => have : x = v := by simpa using hv
             subst this; exact h0
theorem rangeAt2 {w : World} {b o : Nat} {x y : Value} (h0 : w.cell? ⟨b, o, none⟩ = some x) (h1 : w.cell? ⟨b, o + 1, none⟩ = some y) : w.rangeAt b o [x, y] := by
  intro j v hv
  match j, hv with
  | 0, hv => have : x = v := by simpa using hv
             subst this; exact h0
  | 1, hv => have : y = v := by simpa using hv
             subst this; exact h1
theorem rangeAt3 {w : World} {b o : Nat} {x y z : Value} (h0 : w.cell? ⟨b, o, none⟩ = some x) (h1 : w.cell? ⟨b, o + 1, none⟩ = some y) (h2 : w.cell? ⟨b, o + 2, none⟩ = some z) : w.rangeAt b o [x, y, z] := by
  intro j v hv
  match j, hv with
  | 0, hv => have : x = v := by simpa using hv
             subst this; exact h0
  | 1, hv => have : y = v := by simpa using hv
             subst this; exact h1
  | 2, hv => have : z = v := by simpa using hv
             subst this; exact h2
theorem ri {k : IntKind} {a b : Int} (h : a = b) : Ending.returned (.int k a) = .returned (.int k b) := by rw [h]
theorem rb {a b : Bool} (h : a = b) : Ending.returned (.bool a) = .returned (.bool b) := by rw [h]

/-- the region's law for reads and quiet calls ahead of a forced tail -/
theorem still_tail {P : Program} {id : Nat} {Q : Exit → Act → World → Prop} {a : Act} {w : World} {l : List Oper} (n : Nat) (hm : P.follows .mixedOrders = true) (hB : Region.lexTailB .any l.toArray n = true)
    (h : wpStill P l.toArray w.drew (fun a' => wpList P l.toArray Q (l.drop n) a' w.drew) (l.take n) a) : (Code.region id l.toArray true).wp P Q a w :=
  wp_region_still_tail n hm hB h

/-- a step of a path, where it lies -/
theorem stp_at {F w a n cap} {l : List Stp} (h : RSl RStp 2 F w (.slice a n cap) l) {i : Nat} (hi : i < n) :
    ∃ b o x y, a = some ⟨b, o, none⟩ ∧ b < w.heap.size ∧ l[i]? = some (x, y) ∧ I64 x ∧ I64 y ∧ w.cell? ⟨b, o + i * 2, none⟩ = some (.int .i64 x) ∧ w.cell? ⟨b, o + i * 2 + 1, none⟩ = some (.int .i64 y) := by
  obtain ⟨b, o, x, cs, e1, e2, e3, _, e4, ⟨rfl, i1, i2⟩⟩ := h.at_ hi
  exact ⟨b, o, x.1, x.2, e1, e2, e3, i1, i2, by simpa using e4 0 _ rfl, by simpa [Nat.add_assoc] using e4 1 _ rfl⟩
end Cp
