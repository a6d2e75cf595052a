/- Small laws that all walks share. -/
import Derived.WalkKit
import Derived.WalkSpells
import Derived.WalkLawsBesides
import Derived.Lib.Hide
import Derived.Deep.RegionHeld3
import Derived.StillTailTactics
import Derived.Deep.QuietTactic
import Derived.BigQuiet
import Derived.Deep.Draws
import Derived.Deep.RegionWith
import Derived.Test.YtiladkinndgeaaaQce1c6dd27c
import Derived.Test.YtiladkinndgeaaaRows
set_option linter.unusedVariables false
set_option linter.unusedSimpArgs false
namespace Cp
open Go Go.RowKit

/-- nothing that lay in a has changed in w -/
def Ext (a w : World) : Prop := Below a.heap.size a w
theorem ext_refl (w : World) : Ext w w := Below.refl _ _
theorem ext_trans {a b c : World} (h : Ext a b) (k : Ext b c) : Ext a c := Below.trans h (Below.mono k h.size)
theorem ext_call {a b c : World} (h : Ext a b) (k : Ext b c) : Ext a c := ext_trans h k
theorem ext_drew {a w : World} (h : Ext a w) : Ext a w.drew := Below.drew h
theorem ext_drewN {a w : World} (h : Ext a w) (n : Nat) : Ext a (w.drewN n) := by
  have h' : Below a.heap.size a w := h
  exact ⟨h'.os, h'.tape, h'.output, h'.size, h'.block⟩
theorem ext_alloc {a w : World} (h : Ext a w) (o : Obj) : Ext a (w.alloc o) := Below.alloc h h.size o
theorem ext_set {a w : World} (h : Ext a w) {p : Addr} (hp : a.heap.size ≤ p.block) (u : Value) : Ext a (w.setCell p u) := Below.setCell h hp u
theorem ext_grown {a w w' : World} {row : Option Nat} (h : Ext a w) (hg : w.grownBy w' row) (hr : ∀ k, row = some k → a.heap.size ≤ k) : Ext a w' := Below.grown h hg h.size hr
theorem Ext.size {a w : World} (h : Ext a w) : a.heap.size ≤ w.heap.size := Below.size h
theorem Ext.cells {a w : World} (h : Ext a w) : ∀ b o, b < a.heap.size → w.cell? ⟨b, o, none⟩ = a.cell? ⟨b, o, none⟩ := fun _ o hb => Below.cell (p := ⟨_, o, none⟩) h hb
theorem Ext.frz {a w : World} (h : Ext a w) : ∀ b o, b < a.heap.size → w.frozen? ⟨b, o, none⟩ = a.frozen? ⟨b, o, none⟩ := fun _ o hb => Below.frozen (p := ⟨_, o, none⟩) h hb
theorem Ext.below {a w : World} (h : Ext a w) : Below a.heap.size a w := h
theorem Ext.range {a w : World} (h : Ext a w) {b o : Nat} {cs : List Value} (hb : b < a.heap.size) (hc : a.rangeAt b o cs) : w.rangeAt b o cs := rangeAt_block hc (Below.block h b hb)
theorem Good.ext {α : Type} {R : Rd α} (g : Good R) {F w w' cs x} (h : R F w cs x) (hb : Ext w w') : R F w' cs x := g.keep (.of_below hb) h
theorem RSl.ext {α : Type} {R : Rd α} (g : Good R) {sz F w w' v} {l : List α} (h : RSl R sz F w v l) (hb : Ext w w') : RSl R sz F w' v l := h.keep g (.of_below hb)

theorem keeps_set {F : Nat → Prop} {a w : World} (h : Keeps F a w) {p : Addr} (hp : p.block < a.heap.size → ¬ F p.block) (u : Value) : Keeps F a (w.setCell p u) :=
  ⟨by simpa [World.setCell] using h.size, fun k hk hl => (Below.heap_setCell w p u k (fun e => by subst e; exact hp hl hk)).trans (h.block k hk hl)⟩
theorem keeps_alloc {F : Nat → Prop} {a w : World} (h : Keeps F a w) (o : Obj) : Keeps F a (w.alloc o) :=
  ⟨Nat.le_trans h.size (by simp), fun k hk hl => (Below.heap_alloc w o k (Nat.lt_of_lt_of_le hl h.size)).trans (h.block k hk hl)⟩
theorem keeps_drew {F : Nat → Prop} {a w : World} (h : Keeps F a w) : Keeps F a w.drew := ⟨h.size, h.block⟩
theorem keeps_ext {F : Nat → Prop} {a w w' : World} (h : Keeps F a w) (k : Ext w w') : Keeps F a w' := h.trans (.of_below k)
theorem keeps_refl {F : Nat → Prop} {a : World} : Keeps F a a := .refl _ _
theorem rangeAt1 {w : World} {b o : Nat} {x : Value} (h0 : w.cell? ⟨b, o, none⟩ = some x) : w.rangeAt b o [x] := by
  intro j v hv
  match j, hv with
  | 0, hv => have : x = v := by simpa using hv
             subst this; exact h0
theorem rangeAt2 {w : World} {b o : Nat} {x y : Value} (h0 : w.cell? ⟨b, o, none⟩ = some x) (h1 : w.cell? ⟨b, o + 1, none⟩ = some y) : w.rangeAt b o [x, y] := by
  intro j v hv
  match j, hv with
  | 0, hv => have : x = v := by simpa using hv
             subst this; exact h0
  | 1, hv => have : y = v := by simpa using hv
             subst this; exact h1
theorem rangeAt3 {w : World} {b o : Nat} {x y z : Value} (h0 : w.cell? ⟨b, o, none⟩ = some x) (h1 : w.cell? ⟨b, o + 1, none⟩ = some y) (h2 : w.cell? ⟨b, o + 2, none⟩ = some z) : w.rangeAt b o [x, y, z] := by
  intro j v hv
  match j, hv with
  | 0, hv => have : x = v := by simpa using hv
             subst this; exact h0
  | 1, hv => have : y = v := by simpa using hv
             subst this; exact h1
  | 2, hv => have : z = v := by simpa using hv
             subst this; exact h2
theorem ri {k : IntKind} {a b : Int} (h : a = b) : Ending.returned (.int k a) = .returned (.int k b) := by rw [h]
theorem rb {a b : Bool} (h : a = b) : Ending.returned (.bool a) = .returned (.bool b) := by rw [h]

/-- the region's law for reads and quiet calls ahead of a forced tail -/
theorem still_tail {P : Program} {id : Nat} {Q : Exit → Act → World → Prop} {a : Act} {w : World} {l : List Oper} (n : Nat) (hm : P.follows .mixedOrders = true) (hB : Region.lexTailB .any l.toArray n = true)
    (h : wpStill P l.toArray w.drew (fun a' => wpList P l.toArray Q (l.drop n) a' w.drew) (l.take n) a) : (Code.region id l.toArray true).wp P Q a w :=
  wp_region_still_tail n hm hB h

/-- a step of a path, where it lies -/
theorem stp_at {F w a n cap} {l : List Stp} (h : RSl RStp 2 F w (.slice a n cap) l) {i : Nat} (hi : i < n) :
    ∃ b o x y, a = some ⟨b, o, none⟩ ∧ b < w.heap.size ∧ l[i]? = some (x, y) ∧ I64 x ∧ I64 y ∧ w.cell? ⟨b, o + i * 2, none⟩ = some (.int .i64 x) ∧ w.cell? ⟨b, o + i * 2 + 1, none⟩ = some (.int .i64 y) := by
  obtain ⟨b, o, x, cs, e1, e2, e3, _, e4, ⟨rfl, i1, i2⟩⟩ := h.at_ hi
  exact ⟨b, o, x.1, x.2, e1, e2, e3, i1, i2, by simpa using e4 0 _ rfl, by simpa [Nat.add_assoc] using e4 1 _ rfl⟩
/-- the tactic for Ext, said once: it runs where extA stands -/
theorem extA {a w : World} (h : Ext a w := by repeat (first | (with_reducible exact Cp.ext_refl _) | (with_reducible assumption) | (with_reducible refine Cp.ext_drew ?_) | (with_reducible refine Cp.ext_drewN ?_ _) | (with_reducible refine Cp.ext_alloc ?_ _) | (with_reducible refine Cp.ext_set ?_ (by first | omega | (simp <;> omega)) _) | (with_reducible refine Cp.ext_trans ?_ (by with_reducible assumption)))) : Ext a w := h
end Cp
/- The smallest functions: numbers alone. -/
namespace Go.Proofs.Ytiladkinndgeaaa
open Go Go.RowKit Cp

theorem fol : Try.prog.follows .mixedOrders = true := by kernel_rfl
/-- 'from .. to' as a bool -/
def inB (n a b : Int) : Bool := decide (a ≤ n) && decide (n ≤ b)
theorem inB_no {n a b : Int} (h : n < a) : false = inB n a b := by unfold inB; rw [decide_eq_false (by omega)]; rfl
theorem inB_yes {n a b : Int} (h : a ≤ n) : decide (n ≤ b) = inB n a b := by unfold inB; rw [decide_eq_true h]; rfl
theorem cmpI_no {a b : Int} (h : b ≤ a) (k : a ≤ b) : 0 = cmpI a b := by unfold cmpI; rw [if_neg (by omega), if_neg (by omega)]
theorem cmpI_gt {a b : Int} (h : b < a) : 1 = cmpI a b := by unfold cmpI; rw [if_neg (by omega), if_pos h]
theorem cmpI_less {a b : Int} (h : a < b) : -1 = cmpI a b := by unfold cmpI; rw [if_pos h]

theorem within_any (n a b : Int) (w : World) : Calls Try.prog 58 #[.int .i64 n, .int .i64 a, .int .i64 b] w fun e w' => e = .returned (.bool (inB n a b)) ∧ w = w' := by
  go_enter Try.func58, Try.ntmps58
  go_wp2
  all_goals go_ret
  all_goals first | exact ⟨rb (inB_yes ‹_›), rfl⟩ | exact ⟨rb (inB_no ‹_›), rfl⟩
theorem between_any (n a b : Int) (w : World) : Calls Try.prog 30 #[.int .i64 n, .int .i64 a, .int .i64 b] w fun e w' => e = .returned (.bool (inB n a b)) ∧ w = w' := by
  go_enter Try.func30, Try.ntmps30
  go_wp2
  all_goals go_ret
  all_goals first | exact ⟨rb (inB_yes ‹_›), rfl⟩ | exact ⟨rb (inB_no ‹_›), rfl⟩
theorem number_any (a b : Int) (w : World) : Calls Try.prog 84 #[.int .i64 a, .int .i64 b] w fun e w' => e = .returned (.int .i64 (cmpI a b)) ∧ w = w' := by
  go_enter Try.func84, Try.ntmps84
  go_wp2
  all_goals go_ret
  all_goals first | exact ⟨ri (cmpI_less ‹_›), rfl⟩ | exact ⟨ri (cmpI_gt ‹_›), rfl⟩ | exact ⟨ri (cmpI_no ‹_› ‹_›), rfl⟩
theorem site_any (n : Int) (w : World) : Calls Try.prog 39 #[.int .i64 n] w fun e w' => e = .returned (.bool (inB n 0 4)) ∧ w = w' := by
  go_enter Try.func39, Try.ntmps39
  go_wp2_with (go_at_call 58; refine (within_any _ _ _ _).mono ?_; rintro e w' ⟨rfl, rfl⟩)
  go_ret
  exact ⟨rfl, rfl⟩
end Go.Proofs.Ytiladkinndgeaaa
/- Signs of a text. -/
namespace Go.Proofs.Ytiladkinndgeaaa
open Go Go.RowKit Cp

theorem sgn_in (c : UInt8) : signB c = inB (c.toNat : Int) 32 126 := rfl
theorem byte_lt (c : UInt8) : (c.toNat : Int) < 256 := by have := c.toNat_lt; omega
theorem sign_any (c : UInt8) (w : World) : Calls Try.prog 80 #[.int .u8 (c.toNat : Int)] w fun e w' => e = .returned (.bool (signB c)) ∧ w = w' := by
  rw [sgn_in]
  have h256 := byte_lt c
  generalize (c.toNat : Int) = n at *
  go_enter Try.func80, Try.ntmps80
  go_wp2
  all_goals go_ret
  all_goals first | exact ⟨rb (inB_yes ‹_›), rfl⟩ | exact ⟨rb (inB_no ‹_›), rfl⟩
theorem isSign_any (c : UInt8) (w : World) : Calls Try.prog 79 #[.int .u8 (c.toNat : Int)] w fun e w' => e = .returned (.bool (signB c)) ∧ w = w' := by
  rw [sgn_in]
  have h256 := byte_lt c
  have h0 : 0 ≤ (c.toNat : Int) := by omega
  generalize (c.toNat : Int) = n at *
  go_enter Try.func79, Try.ntmps79
  go_wp2_with (go_at_call 30; refine (between_any _ _ _ _).mono ?_; rintro e w' ⟨rfl, rfl⟩)
  go_ret
  exact ⟨rfl, rfl⟩

theorem signsB_take {s : ByteArray} {k : Nat} (hk : k < s.size) (h : signsB (s.data.toList.take k) = true) (h2 : signB s[k] = true) : signsB (s.data.toList.take (k + 1)) = true := by
  rw [List.take_succ_eq_append_getElem (by simpa using hk)]
  unfold signsB at *
  rw [List.all_append, h]
  simp only [Bool.true_and, List.all_cons, List.all_nil, Bool.and_true]
  exact h2
theorem signsB_bad {s : ByteArray} {k : Nat} (hk : k < s.size) (h2 : signB s[k] = false) : false = signsB s.data.toList := by
  symm
  unfold signsB
  rw [List.all_eq_false]
  exact ⟨s[k], by rw [List.mem_iff_getElem]; exact ⟨k, by simpa using hk, rfl⟩, by simp [h2]⟩
theorem signsB_end {s : ByteArray} {k : Nat} (hk : s.size ≤ k) (h : signsB (s.data.toList.take k) = true) : true = signsB s.data.toList := by
  rw [List.take_of_length_le (by simpa using hk)] at h
  exact h.symm

theorem signs_any (s : ByteArray) (w : World) (hs : s.size ≤ maxLen) : Calls Try.prog 71 #[.string s] w fun e w' => e = .returned (.bool (signsB s.data.toList)) ∧ w = w' := by
  unfold maxLen at hs
  go_enter Try.func71, Try.ntmps71
  go_wp2
  go_loop [6] (fun i => ∃ k : Nat, k ≤ s.size ∧ i = .int .i64 k ∧ Hid (signsB (s.data.toList.take k) = true)) (fun i => s.size - (intOf i).toNat)
  case atStart => exact ⟨0, Nat.zero_le _, rfl, rfl⟩
  case round =>
    obtain ⟨k, hk, rfl, h⟩ := hrel
    by_cases hlt : k < s.size
    · cases g : signB s[k] with
      | true =>
        go_wp2_with (go_at_call 80; ((with_reducible refine (sign_any _ _).mono ?_); rintro e w' ⟨rfl, rfl⟩))
        go_round
        case rel => exact ⟨k + 1, by omega, by go_num, signsB_take hlt h.out g⟩
        case measure => simp [intOf]; omega
      | false =>
        go_wp2_with (go_at_call 80; ((with_reducible refine (sign_any _ _).mono ?_); rintro e w' ⟨rfl, rfl⟩))
        go_ret
        exact ⟨rb (signsB_bad hlt g), rfl⟩
    · go_wp2
      go_ret
      exact ⟨rb (signsB_end (by omega) h.out), rfl⟩
theorem areSigns_any (s : ByteArray) (w : World) (hs : s.size ≤ maxLen) : Calls Try.prog 68 #[.string s] w fun e w' => e = .returned (.bool (signsB s.data.toList)) ∧ w = w' := by
  unfold maxLen at hs
  go_enter Try.func68, Try.ntmps68
  go_wp2
  go_loop [3] (fun i => ∃ k : Nat, k ≤ s.size ∧ i = .int .i64 k ∧ Hid (signsB (s.data.toList.take k) = true)) (fun i => s.size - (intOf i).toNat)
  case atStart => exact ⟨0, Nat.zero_le _, rfl, rfl⟩
  case round =>
    obtain ⟨k, hk, rfl, h⟩ := hrel
    by_cases hlt : k < s.size
    · cases g : signB s[k] with
      | true =>
        go_wp2_with (go_at_call 79; ((with_reducible refine (isSign_any _ _).mono ?_); rintro e w' ⟨rfl, rfl⟩))
        go_round
        case rel => exact ⟨k + 1, by omega, by go_num, signsB_take hlt h.out g⟩
        case measure => simp [intOf]; omega
      | false =>
        go_wp2_with (go_at_call 79; ((with_reducible refine (isSign_any _ _).mono ?_); rintro e w' ⟨rfl, rfl⟩))
        go_ret
        exact ⟨rb (signsB_bad hlt g), rfl⟩
    · go_wp2
      go_ret
      exact ⟨rb (signsB_end (by omega) h.out), rfl⟩
end Go.Proofs.Ytiladkinndgeaaa
/- cmp.Or at two numbers; the order of two steps. -/
namespace Go.Proofs.Ytiladkinndgeaaa
open Go Go.RowKit Cp

def orI (a b : Int) : Int := if a = 0 then b else a
theorem ordS_or (a b : Stp) : ordS a b = orI (cmpI a.1 b.1) (cmpI a.2 b.2) := rfl
theorem ordP_drop_end {l m : List Stp} {k : Nat} (hk : k = l.length) (hm : k ≤ m.length) : ordP (l.drop k) (m.drop k) = if l.length < m.length then -1 else 0 := by
  subst hk
  rw [List.drop_eq_nil_of_le (Nat.le_refl _)]
  split
  · rename_i h
    rw [List.drop_eq_getElem_cons h]; rfl
  · rw [List.drop_eq_nil_of_le (by omega)]; rfl
theorem ordP_drop_gt {l m : List Stp} {k : Nat} (hk : k < l.length) (hm : m.length ≤ k) : ordP (l.drop k) (m.drop k) = 1 := by
  rw [List.drop_eq_getElem_cons hk, List.drop_eq_nil_of_le hm]; rfl
theorem ordP_drop_step {l m : List Stp} {k : Nat} {s t : Stp} (h1 : l[k]? = some s) (h2 : m[k]? = some t) :
    ordP (l.drop k) (m.drop k) = if ordS s t = 0 then ordP (l.drop (k + 1)) (m.drop (k + 1)) else ordS s t := by
  obtain ⟨a1, b1⟩ := List.getElem?_eq_some_iff.1 h1
  obtain ⟨a2, b2⟩ := List.getElem?_eq_some_iff.1 h2
  rw [List.drop_eq_getElem_cons a1, List.drop_eq_getElem_cons a2, b1, b2]; rfl

end Go.Proofs.Ytiladkinndgeaaa
/- The order of two marks. -/
namespace Go.Proofs.Ytiladkinndgeaaa
open Go Go.RowKit Cp

theorem ordM_or (a b : Mk) : ordM a b = orI (ordP a.1 b.1) (cmpI a.2 b.2) := rfl
end Go.Proofs.Ytiladkinndgeaaa
/- The reference's order of two marks. -/
namespace Go.Proofs.Ytiladkinndgeaaa
open Go Go.RowKit Cp

theorem quiet_add_same {P : Program} {f : FuncId} {args : Array Value} {w : World} {a n : Nat} {v : Value}
    (h : Calls P f args (w.drewN (a + n)) fun e w' => e = .returned v ∧ w' = w.drewN (a + n)) :
    Calls P f args (w.drewN (a + n)) fun e w'' => e = .returned v ∧ ∃ m, w'' = w.drewN (a + m) :=
  h.mono fun _ _ ⟨he, hm⟩ => ⟨he, n, hm⟩
theorem number_s (a b : Int) (w : World) : Calls Try.prog 84 #[.int .i64 a, .int .i64 b] w fun e w' => e = .returned (.int .i64 (cmpI a b)) ∧ w' = w :=
  (number_any a b w).mono fun _ _ h => ⟨h.1, h.2.symm⟩
theorem ordP_end {l m : List Stp} {k : Nat} (h1 : k ≤ l.length) (h2 : k ≤ m.length) (h3 : ¬ (k < l.length ∧ k < m.length)) : ordP (l.drop k) (m.drop k) = cmpI (l.length : Int) (m.length : Int) := by
  by_cases h : k < l.length
  · rw [ordP_drop_gt h (by omega)]; unfold cmpI; rw [if_neg (by omega), if_pos (by omega)]
  · rw [ordP_drop_end (by omega) h2]
    split
    · unfold cmpI; rw [if_pos (by omega)]
    · unfold cmpI; rw [if_neg (by omega), if_neg (by omega)]
theorem ordM_fin {l m : List Stp} {c d : Int} {k : Nat} (ho : ordP l m = ordP (l.drop k) (m.drop k)) (h1 : k ≤ l.length) (h2 : k ≤ m.length) (h3 : ¬ (k < l.length ∧ k < m.length)) :
    ordM (l, c) (m, d) = if cmpI (l.length : Int) (m.length : Int) = 0 then cmpI c d else cmpI (l.length : Int) (m.length : Int) := by
  unfold ordM; simp only; rw [ho, ordP_end h1 h2 h3]
theorem ordM_ne {l m : List Stp} {c d x : Int} {k : Nat} (ho : ordP l m = ordP (l.drop k) (m.drop k)) (hs : ordP (l.drop k) (m.drop k) = x) (hx : x ≠ 0) : ordM (l, c) (m, d) = x := by
  unfold ordM; simp only; rw [ho, hs, if_neg hx]

set_option maxRecDepth 100000 in
set_option maxHeartbeats 800000 in
theorem orderOf_any {F G : Nat → Prop} {w : World} {cs ds : List Value} {a b : Mk} (ha : RMk F w cs a) (hb : RMk G w ds b) :
    Calls Try.prog 82 #[.agg cs.toArray, .agg ds.toArray] w fun e w' => e = .returned (.int .i64 (ordM a b)) ∧ Ext w w' := by
  obtain ⟨v, rfl, hl, _⟩ := ha
  obtain ⟨u, rfl, hm, _⟩ := hb
  obtain ⟨l, c⟩ := a
  obtain ⟨m, d⟩ := b
  simp only at hl hm ⊢
  obtain ⟨a1, n1, c1, rfl⟩ := hl.slice
  obtain ⟨a2, n2, c2, rfl⟩ := hm.slice
  obtain ⟨rfl, k1, k1'⟩ := hl.len
  obtain ⟨rfl, k2, k2'⟩ := hm.len
  unfold maxLen at k1' k2'
  have q1 : l.length ≤ 9223372036854775807 := by omega
  have q2 : m.length ≤ 9223372036854775807 := by omega
  clear k1 k1' k2 k2'
  have HL := Lib.hid hl
  have HM := Lib.hid hm
  clear hl hm
  go_enter Try.func82, Try.ntmps82
  go_wp2
  go_loopw [5] (fun i wr => ∃ k : Nat, k ≤ l.length ∧ k ≤ m.length ∧ i = .int .i64 k ∧ Hid (ordP l m = ordP (l.drop k) (m.drop k)) ∧ Ext ((w.alloc (.cells #[.slice a1 l.length c1, .int .i64 c] 56)).alloc (.cells #[.slice a2 m.length c2, .int .i64 d] 56)) wr) (fun i _ => l.length - (intOf i).toNat)
  case atStart => exact ⟨0, by omega, by omega, rfl, Lib.hid (by simp), ext_refl _⟩
  case round =>
    obtain ⟨k, hk1, hk2, rfl, ho, hx⟩ := hrel
    have hw : Ext w wr := ext_trans (ext_alloc (ext_alloc (ext_refl _) _) _) hx
    have z1 : wr.cell? ⟨w.heap.size, 0, none⟩ = some (.slice a1 l.length c1) := (hx.cells _ _ (by simp <;> omega)).trans (by go_simp)
    have z2 : wr.cell? ⟨w.heap.size, 1, none⟩ = some (.int .i64 c) := (hx.cells _ _ (by simp <;> omega)).trans (by go_simp)
    have z3 : wr.cell? ⟨w.heap.size + 1, 0, none⟩ = some (.slice a2 m.length c2) := (hx.cells _ _ (by simp <;> omega)).trans (by go_simp)
    have z4 : wr.cell? ⟨w.heap.size + 1, 1, none⟩ = some (.int .i64 d) := (hx.cells _ _ (by simp <;> omega)).trans (by go_simp)
    have HX := Lib.hid hx
    have HW := Lib.hid hw
    clear hx hw
    by_cases h12 : k < l.length ∧ k < m.length
    · obtain ⟨h1, h2⟩ := h12
      obtain ⟨b1, o1, x1, y1, rfl, hb1, e1, _, _, ca, cb⟩ := stp_at (HL.out.ext gStp HW.out) h1
      obtain ⟨b2, o2, x2, y2, rfl, hb2, e2, _, _, cc, cd⟩ := stp_at (HM.out.ext gStp HW.out) h2
      have HS := Lib.hid (ordP_drop_step e1 e2)
      clear e1 e2 hb1 hb2
      have hz : cmpI x1 x2 = 0 → ordS (x1, y1) (x2, y2) = cmpI y1 y2 := fun h => by unfold ordS; simp [h]
      have hn : cmpI x1 x2 ≠ 0 → ordS (x1, y1) (x2, y2) = cmpI x1 x2 := fun h => by unfold ordS; simp [h]
      by_cases h0 : cmpI x1 x2 = 0
      · have t1 : (cmpI x1 x2 == 0) = true := by rw [beq_iff_eq]; exact h0
        have HZ := Lib.hid (hz h0)
        clear hz hn h0
        by_cases h5 : cmpI y1 y2 = 0
        · have t2 : (cmpI y1 y2 != 0) = false := by rw [h5]; rfl
          have H5 := Lib.hid h5
          clear h5
          go_wp2
          go_quiet ((go_at_call 84; exact Calls.quiet_of_same (number_s _ _ _)))
          go_wp2
          go_quiet ((go_at_call 84; exact quiet_add_same (number_s _ _ _)))
          go_wp2
          go_roundw
          case rel => exact ⟨k + 1, by omega, by omega, by go_num, Lib.hid (by rw [ho.out, HS.out, HZ.out, if_pos H5.out]), ext_drewN HX.out _⟩
          case measure => simp [intOf]; omega
        · have t2 : (cmpI y1 y2 != 0) = true := by rw [bne_iff_ne]; exact h5
          have H5 := Lib.hid h5
          clear h5
          go_wp2
          go_quiet ((go_at_call 84; exact Calls.quiet_of_same (number_s _ _ _)))
          go_wp2
          go_quiet ((go_at_call 84; exact quiet_add_same (number_s _ _ _)))
          go_wp2
          go_ret
          exact ⟨ri (ordM_ne ho.out (HS.out.trans (by rw [HZ.out, if_neg H5.out])) H5.out).symm, ext_drewN HW.out _⟩
      · have t1 : (cmpI x1 x2 == 0) = false := by rw [beq_eq_false_iff_ne]; exact h0
        have t2 : (cmpI x1 x2 != 0) = true := by rw [bne_iff_ne]; exact h0
        have HZ := Lib.hid (hn h0)
        have H0 := Lib.hid h0
        clear h0 hz hn
        go_wp2
        go_quiet ((go_at_call 84; exact Calls.quiet_of_same (number_s _ _ _)))
        go_wp2
        go_ret
        exact ⟨ri (ordM_ne ho.out (HS.out.trans (by rw [HZ.out, if_neg H0.out])) H0.out).symm, ext_drewN HW.out _⟩
    · have HF := Lib.hid (ordM_fin (c := c) (d := d) ho.out hk1 hk2 h12)
      clear ho
      have key : ∀ (e : Ending) (w1 : World), e = .returned (.int .i64 (if cmpI (l.length : Int) (m.length : Int) = 0 then cmpI c d else cmpI (l.length : Int) (m.length : Int))) → w1 = wr → e = .returned (.int .i64 (ordM (l, c) (m, d))) ∧ Ext w w1 := fun e w1 h1 h2 => by
        subst h2
        exact ⟨by rw [h1, HF.out], HW.out⟩
      have KEY := Lib.hid key
      clear key
      have hfin : ∀ (x : Int), cmpI (l.length : Int) (m.length : Int) = x → True := fun _ _ => trivial
      clear hfin
      by_cases h5 : cmpI (l.length : Int) (m.length : Int) = 0
      · have t2 : (cmpI (l.length : Int) (m.length : Int) == 0) = true := by rw [beq_iff_eq]; exact h5
        have H5 := Lib.hid h5
        clear h5
        by_cases h1 : k < l.length
        · have h2 : ¬ k < m.length := fun h => h12 ⟨h1, h⟩
          clear h12
          go_wp2_with (go_at_call 84; refine (number_any _ _ _).mono ?_; rintro e w2 ⟨rfl, rfl⟩)
          go_ret
          exact KEY.out _ _ (ri (by rw [if_pos H5.out])) rfl
        · clear h12
          go_wp2_with (go_at_call 84; refine (number_any _ _ _).mono ?_; rintro e w2 ⟨rfl, rfl⟩)
          go_ret
          exact KEY.out _ _ (ri (by rw [if_pos H5.out])) rfl
      · have t2 : (cmpI (l.length : Int) (m.length : Int) == 0) = false := by rw [beq_eq_false_iff_ne]; exact h5
        have H5 := Lib.hid h5
        clear h5
        by_cases h1 : k < l.length
        · have h2 : ¬ k < m.length := fun h => h12 ⟨h1, h⟩
          clear h12
          go_wp2_with (go_at_call 84; refine (number_any _ _ _).mono ?_; rintro e w2 ⟨rfl, rfl⟩)
          go_ret
          exact KEY.out _ _ (ri (by rw [if_neg H5.out])) rfl
        · clear h12
          go_wp2_with (go_at_call 84; refine (number_any _ _ _).mono ?_; rintro e w2 ⟨rfl, rfl⟩)
          go_ret
          exact KEY.out _ _ (ri (by rw [if_neg H5.out])) rfl

theorem same_any {F G : Nat → Prop} {w : World} {cs ds : List Value} {a b : Mk} (ha : RMk F w cs a) (hb : RMk G w ds b) :
    Calls Try.prog 75 #[.agg cs.toArray, .agg ds.toArray] w fun e w' => e = .returned (.bool (ordM a b == 0)) ∧ Ext w w' := by
  have h := fun (W : World) (hx : Ext w W) => orderOf_any (gMk.ext ha hx) (gMk.ext hb hx)
  obtain ⟨v, rfl, _, _⟩ := ha
  obtain ⟨u, rfl, _, _⟩ := hb
  have H := Lib.hid h
  clear h
  go_enter Try.func75, Try.ntmps75
  go_wp2_with (go_at_call 82; refine (H.out _ (ext_alloc (ext_alloc (ext_refl _) _) _)).mono ?_; rintro e w1 ⟨rfl, hx1⟩)
  go_ret
  exact ⟨rfl, ext_call (ext_alloc (ext_alloc (ext_refl _) _) _) hx1⟩
end Go.Proofs.Ytiladkinndgeaaa
/- What is wrong with a mark. -/
namespace Go.Proofs.Ytiladkinndgeaaa
open Go Go.RowKit Cp

theorem badS_in (x y : Int) : badS (x, y) = (!inB x 0 200 || !inB y 0 4) := rfl
theorem lastDigit_at {l : List Stp} {x y : Int} (h : l[l.length - 1]? = some (x, y)) : lastDigit l = x := by
  unfold lastDigit
  rw [List.getLast?_eq_getElem?, h]; rfl
theorem lastSite_at {l : List Stp} {x y : Int} (h : l[l.length - 1]? = some (x, y)) : lastSite l = y := by
  unfold lastSite
  rw [List.getLast?_eq_getElem?, h]; rfl
theorem any_step {l : List Stp} {k : Nat} {s : Stp} (h : l[k]? = some s) : (l.take (k + 1)).any badS = ((l.take k).any badS || badS s) := by
  obtain ⟨a1, b1⟩ := List.getElem?_eq_some_iff.1 h
  rw [List.take_succ_eq_append_getElem a1, List.any_append, b1]; simp
theorem any_of_take {l : List Stp} {k : Nat} (h : (l.take k).any badS = true) : l.any badS = true := by
  rw [← List.take_append_drop k l, List.any_append, h]; rfl
theorem checkM_many {l : List Stp} {c : Int} (h : 10 < l.length) : checkM (l, c) = 2 := by unfold checkM; rw [if_pos h]
theorem checkM_nil {l : List Stp} {c : Int} (h : l.length = 0) : checkM (l, c) = 1 := by
  have : l = [] := by simpa using h
  subst this; rfl
theorem checkM_bad {l : List Stp} {c : Int} (h1 : ¬ 10 < l.length) (h2 : l.length ≠ 0) (h : l.any badS = true) : checkM (l, c) = 3 := by
  unfold checkM; rw [if_neg h1, if_neg (fun e => h2 (by simp at e; simp [e])), if_pos h]
theorem checkM_end {l : List Stp} {c : Int} (h1 : ¬ 10 < l.length) (h2 : l.length ≠ 0) (h : l.any badS = false) : checkM (l, c) = if lastDigit l = 0 ∨ inB c 1 10000 = false then 3 else 0 := by
  unfold checkM
  rw [if_neg h1, if_neg (fun e => h2 (by simp at e; simp [e])), if_neg (by rw [h]; simp)]
  unfold inB
  simp only [Bool.and_eq_false_iff, decide_eq_false_iff_not]
  congr 1
  apply propext
  omega

theorem none_any {F : Nat → Prop} {w : World} {cs : List Value} {m : Mk} (h : RMk F w cs m) :
    Calls Try.prog 53 #[.agg cs.toArray] w fun e w' => e = .returned (.bool (noneM m)) ∧ Ext w w' := by
  obtain ⟨v, rfl, hl, _⟩ := h
  obtain ⟨l, c⟩ := m
  simp only at hl ⊢
  obtain ⟨a1, n1, c1, rfl⟩ := hl.slice
  obtain ⟨rfl, _, _⟩ := hl.len
  clear hl
  by_cases h0 : l.length = 0
  · have e1 : noneM (l, c) = (c == 0) := by
      have : l = [] := by simpa using h0
      subst this; unfold noneM; simp; rfl
    have t1 : ((l.length : Int) == 0) = true := by rw [beq_iff_eq]; omega
    rw [e1]
    clear e1 h0
    go_enter Try.func53, Try.ntmps53
    go_wp2
    go_ret
    exact ⟨rfl, ext_alloc (ext_refl _) _⟩
  · have e1 : noneM (l, c) = false := by
      unfold noneM; cases l with
      | nil => simp at h0
      | cons a r => rfl
    have t1 : ((l.length : Int) == 0) = false := by rw [beq_eq_false_iff_ne]; omega
    rw [e1]
    clear e1 h0
    go_enter Try.func53, Try.ntmps53
    go_wp2
    go_ret
    exact ⟨rfl, ext_alloc (ext_refl _) _⟩
theorem noneP_any {F : Nat → Prop} {w : World} {cs : List Value} {m : Mk} (h : RMk F w cs m) :
    Calls Try.prog 61 #[.agg cs.toArray] w fun e w' => e = .returned (.bool (noneM m)) ∧ Ext w w' := by
  obtain ⟨v, rfl, hl, _⟩ := h
  obtain ⟨l, c⟩ := m
  simp only at hl ⊢
  obtain ⟨a1, n1, c1, rfl⟩ := hl.slice
  obtain ⟨rfl, _, _⟩ := hl.len
  clear hl
  by_cases h0 : l.length = 0
  · have e1 : noneM (l, c) = (c == 0) := by
      have : l = [] := by simpa using h0
      subst this; unfold noneM; simp; rfl
    have t1 : ((l.length : Int) == 0) = true := by rw [beq_iff_eq]; omega
    rw [e1]
    clear e1 h0
    go_enter Try.func61, Try.ntmps61
    go_wp2
    go_ret
    exact ⟨rfl, ext_alloc (ext_refl _) _⟩
  · have e1 : noneM (l, c) = false := by
      unfold noneM; cases l with
      | nil => simp at h0
      | cons a r => rfl
    have t1 : ((l.length : Int) == 0) = false := by rw [beq_eq_false_iff_ne]; omega
    rw [e1]
    clear e1 h0
    go_enter Try.func61, Try.ntmps61
    go_wp2
    go_ret
    exact ⟨rfl, ext_alloc (ext_refl _) _⟩

set_option maxRecDepth 100000 in
set_option maxHeartbeats 800000 in
theorem checkMark_any {F : Nat → Prop} {w : World} {cs : List Value} {m : Mk} (h : RMk F w cs m) :
    Calls Try.prog 54 #[.agg cs.toArray] w fun e w' => e = .returned (.int .i64 (checkM m)) ∧ Ext w w' := by
  obtain ⟨v, rfl, hl, _⟩ := h
  obtain ⟨l, c⟩ := m
  simp only at hl ⊢
  obtain ⟨a1, n1, c1, rfl⟩ := hl.slice
  obtain ⟨rfl, k1, k1'⟩ := hl.len
  unfold maxLen at k1'
  have q1 : l.length ≤ 9223372036854775807 := by omega
  clear k1 k1'
  have HL := Lib.hid hl
  clear hl
  by_cases hm : 10 < l.length
  · rw [checkM_many hm]
    go_enter Try.func54, Try.ntmps54
    go_wp2
    go_ret
    exact ⟨rfl, ext_alloc (ext_refl _) _⟩
  by_cases h0 : l.length = 0
  · rw [checkM_nil h0]
    have t1 : ((l.length : Int) == 0) = true := by rw [beq_iff_eq]; omega
    clear h0
    go_enter Try.func54, Try.ntmps54
    go_wp2
    go_ret
    exact ⟨rfl, ext_alloc (ext_refl _) _⟩
  have t1 : ((l.length : Int) == 0) = false := by rw [beq_eq_false_iff_ne]; omega
  have H0 := Lib.hid h0
  have hp : 0 < l.length := by omega
  clear h0
  go_enter Try.func54, Try.ntmps54
  go_wp2
  go_loopw [4] (fun i wr => ∃ k : Nat, k ≤ l.length ∧ i = .int .i64 k ∧ Hid ((l.take k).any badS = false) ∧ Ext (w.alloc (.cells #[.slice a1 l.length c1, .int .i64 c] 56)) wr) (fun i _ => l.length - (intOf i).toNat)
  case atStart => exact ⟨0, by omega, rfl, Lib.hid (by simp), ext_refl _⟩
  case round =>
    obtain ⟨k, hk1, rfl, ho, hx⟩ := hrel
    have hw : Ext w wr := ext_trans (ext_alloc (ext_refl _) _) hx
    have z1 : wr.cell? ⟨w.heap.size, 0, none⟩ = some (.slice a1 l.length c1) := (hx.cells _ _ (by simp <;> omega)).trans (by go_simp)
    have z2 : wr.cell? ⟨w.heap.size, 1, none⟩ = some (.int .i64 c) := (hx.cells _ _ (by simp <;> omega)).trans (by go_simp)
    have HX := Lib.hid hx
    have HW := Lib.hid hw
    clear hx hw
    by_cases h1 : k < l.length
    · obtain ⟨b1, o1, x1, y1, rfl, hb1, e1, _, _, ca, cb⟩ := stp_at (HL.out.ext gStp HW.out) h1
      have HA := Lib.hid (any_step e1)
      clear e1 hb1
      have HB := Lib.hid (badS_in x1 y1)
      cases g1 : inB x1 0 200 with
      | false =>
        have HC := Lib.hid (checkM_bad (c := c) hm H0.out (any_of_take (k := k + 1) (by rw [HA.out, ho.out, HB.out, g1]; rfl)))
        go_wp2_with (go_at_call 30; refine (between_any _ _ _ _).mono ?_; rintro e w1 ⟨rfl, rfl⟩)
        go_ret
        exact ⟨ri HC.out.symm, HW.out⟩
      | true =>
        cases g2 : inB y1 0 4 with
        | false =>
          have HC := Lib.hid (checkM_bad (c := c) hm H0.out (any_of_take (k := k + 1) (by rw [HA.out, ho.out, HB.out, g1, g2]; rfl)))
          go_wp2_with (go_at_call 30; refine (between_any _ _ _ _).mono ?_; rintro e w1 ⟨rfl, rfl⟩)
          go_ret
          exact ⟨ri HC.out.symm, HW.out⟩
        | true =>
          have HD := Lib.hid (show (l.take (k + 1)).any badS = false by rw [HA.out, ho.out, HB.out, g1, g2]; rfl)
          go_wp2_with (go_at_call 30; refine (between_any _ _ _ _).mono ?_; rintro e w1 ⟨rfl, rfl⟩)
          go_roundw
          case rel => exact ⟨k + 1, by omega, by go_num, HD, HX.out⟩
          case measure => simp [intOf]; omega
    · have hk : k = l.length := by omega
      subst hk
      have ho' := ho.out
      rw [List.take_of_length_le (Nat.le_refl _)] at ho'
      have HC := Lib.hid (checkM_end (c := c) hm H0.out ho')
      clear ho ho'
      have hlast : l.length - 1 < l.length := by omega
      obtain ⟨b1, o1, x1, y1, rfl, hb1, e1, _, _, ca, cb⟩ := stp_at (HL.out.ext gStp HW.out) hlast
      have HLD := Lib.hid (lastDigit_at e1)
      clear e1 hb1
      by_cases hx1 : x1 = 0
      · have t2 : (x1 == 0) = true := by rw [beq_iff_eq]; exact hx1
        have HX1 := Lib.hid hx1
        clear hx1
        go_wp2_with (go_at_call 30; refine (between_any _ _ _ _).mono ?_; rintro e w1 ⟨rfl, rfl⟩)
        go_ret
        exact ⟨ri (by rw [HC.out, if_pos (.inl (HLD.out.trans HX1.out))]), HW.out⟩
      · have t2 : (x1 == 0) = false := by rw [beq_eq_false_iff_ne]; exact hx1
        have HX1 := Lib.hid hx1
        clear hx1
        cases g1 : inB c 1 10000 with
        | false =>
          go_wp2_with (go_at_call 30; refine (between_any _ _ _ _).mono ?_; rintro e w1 ⟨rfl, rfl⟩)
          go_ret
          exact ⟨ri (by rw [HC.out, if_pos (.inr g1)]), HW.out⟩
        | true =>
          go_wp2_with (go_at_call 30; refine (between_any _ _ _ _).mono ?_; rintro e w1 ⟨rfl, rfl⟩)
          go_ret
          exact ⟨ri (by rw [HC.out, if_neg (by rw [HLD.out, g1]; simp [HX1.out])]), HW.out⟩
end Go.Proofs.Ytiladkinndgeaaa
/- What is wrong with a mark, by the program. -/
namespace Go.Proofs.Ytiladkinndgeaaa
open Go Go.RowKit Cp

theorem badStep_any (x y : Int) (w : World) : Calls Try.prog 73 #[.agg #[.int .i64 x, .int .i64 y]] w fun e w' => e = .returned (.bool (badS (x, y))) ∧ Ext w w' := by
  rw [badS_in]
  cases g1 : inB x 0 200 with
  | false =>
    go_enter Try.func73, Try.ntmps73
    go_wp2_with (first | (go_at_call 58; refine (within_any _ _ _ _).mono ?_; rintro e w1 ⟨rfl, rfl⟩) | (go_at_call 39; refine (site_any _ _).mono ?_; rintro e w1 ⟨rfl, rfl⟩))
    go_ret
    exact ⟨rb (by simp), ext_alloc (ext_refl _) _⟩
  | true =>
    go_enter Try.func73, Try.ntmps73
    go_wp2_with (first | (go_at_call 58; refine (within_any _ _ _ _).mono ?_; rintro e w1 ⟨rfl, rfl⟩) | (go_at_call 39; refine (site_any _ _).mono ?_; rintro e w1 ⟨rfl, rfl⟩))
    go_ret
    exact ⟨rb (by simp), ext_alloc (ext_refl _) _⟩

/-- a place, or -1 -/
def IsIdx (b : Bool) (w : World) (e : Ending) (w' : World) : Prop := ∃ n : Int, decide (0 ≤ n) = b ∧ e = .returned (.int .i64 n) ∧ Ext w w'
/-- a function value that says p of a step -/
def PredS (P : Program) (g : Nat) (p : Stp → Bool) : Prop := ∀ (x y : Int) (W : World), Calls P g #[.agg #[.int .i64 x, .int .i64 y]] W fun e w' => e = .returned (.bool (p (x, y))) ∧ Ext W w'
theorem anyp_step {α : Type} {p : α → Bool} {l : List α} {k : Nat} {s : α} (h : l[k]? = some s) : (l.take (k + 1)).any p = ((l.take k).any p || p s) := by
  obtain ⟨a1, b1⟩ := List.getElem?_eq_some_iff.1 h
  rw [List.take_succ_eq_append_getElem a1, List.any_append, b1]; simp
theorem anyp_of_take {α : Type} {p : α → Bool} {l : List α} {k : Nat} (h : (l.take k).any p = true) : l.any p = true := by
  rw [← List.take_append_drop k l, List.any_append, h]; rfl

set_option maxRecDepth 100000 in
theorem idxStep_any {F : Nat → Prop} {w : World} {v : Value} {l : List Stp} (h : RSl RStp 2 F w v l) :
    Calls Try.prog 81 #[v, .func (.func 73) #[] #[]] w (IsIdx (l.any badS) w) := by
  obtain ⟨a1, n1, c1, rfl⟩ := h.slice
  obtain ⟨rfl, k1, k1'⟩ := h.len
  unfold maxLen at k1'
  have q1 : l.length ≤ 9223372036854775807 := by omega
  clear k1 k1'
  have HL := Lib.hid h
  clear h
  go_enter Try.func81, Try.ntmps81
  go_wp2
  go_loopw [8] (fun i wr => ∃ k : Nat, k ≤ l.length ∧ i = .int .i64 k ∧ Hid ((l.take k).any badS = false) ∧ Ext w wr) (fun i _ => l.length - (intOf i).toNat)
  case atStart => exact ⟨0, by omega, rfl, Lib.hid (by simp), ext_refl _⟩
  case round =>
    obtain ⟨k, hk1, rfl, ho, hx⟩ := hrel
    have HX := Lib.hid hx
    clear hx
    by_cases h1 : k < l.length
    · obtain ⟨b1, o1, x1, y1, rfl, hb1, e1, _, _, ca, cb⟩ := stp_at (HL.out.ext gStp HX.out) h1
      have HA := Lib.hid (anyp_step (p := badS) e1)
      clear e1 hb1
      cases g1 : badS (x1, y1) with
      | true =>
        have HC := Lib.hid (anyp_of_take (k := k + 1) (by rw [HA.out, ho.out, g1]; rfl))
        go_wp2_with (go_at_call 73; refine (badStep_any _ _ _).mono ?_; rintro e w1 ⟨rfl, hx1⟩)
        go_ret
        exact ⟨k, by rw [HC.out]; simp, rfl, ext_call HX.out hx1⟩
      | false =>
        have HD := Lib.hid (show (l.take (k + 1)).any badS = false by rw [HA.out, ho.out, g1]; rfl)
        go_wp2_with (go_at_call 73; refine (badStep_any _ _ _).mono ?_; rintro e w1 ⟨rfl, hx1⟩)
        go_roundw
        case rel => exact ⟨k + 1, by omega, by go_num, HD, ext_call HX.out hx1⟩
        case measure => simp [intOf]; omega
    · have hk : k = l.length := by omega
      subst hk
      have ho' := ho.out
      rw [List.take_of_length_le (Nat.le_refl _)] at ho'
      have HO := Lib.hid ho'
      clear ho ho'
      go_wp2
      go_ret
      exact ⟨-1, by rw [HO.out]; rfl, rfl, HX.out⟩

theorem containsStep_any {F : Nat → Prop} {w : World} {v : Value} {l : List Stp} (h : RSl RStp 2 F w v l) :
    Calls Try.prog 72 #[v, .func (.func 73) #[] #[]] w fun e w' => e = .returned (.bool (l.any badS)) ∧ Ext w w' := by
  have H := Lib.hid (idxStep_any h)
  clear h
  go_enter Try.func72, Try.ntmps72
  go_wp2_with (go_at_call 81; refine H.out.mono ?_; rintro e w1 ⟨n, hn, rfl, hx1⟩; have HN := Lib.hid hn; clear hn)
  go_ret
  exact ⟨rb HN.out, hx1⟩

set_option maxRecDepth 100000 in
set_option maxHeartbeats 800000 in
theorem check_any {F : Nat → Prop} {w : World} {cs : List Value} {m : Mk} (h : RMk F w cs m) :
    Calls Try.prog 62 #[.agg cs.toArray] w fun e w' => e = .returned (.int .i64 (checkM m)) ∧ Ext w w' := by
  obtain ⟨v, rfl, hl, _⟩ := h
  obtain ⟨l, c⟩ := m
  simp only at hl ⊢
  have HCO := Lib.hid (fun (W : World) (hx : Ext w W) => containsStep_any (hl.ext gStp hx))
  obtain ⟨a1, n1, c1, rfl⟩ := hl.slice
  obtain ⟨rfl, k1, k1'⟩ := hl.len
  unfold maxLen at k1'
  have q1 : l.length ≤ 9223372036854775807 := by omega
  clear k1 k1'
  have HL := Lib.hid hl
  clear hl
  by_cases hm : 10 < l.length
  · rw [checkM_many hm]
    go_enter Try.func62, Try.ntmps62
    go_wp2
    go_ret
    exact ⟨rfl, ext_alloc (ext_refl _) _⟩
  by_cases h0 : l.length = 0
  · rw [checkM_nil h0]
    have t1 : ((l.length : Int) == 0) = true := by rw [beq_iff_eq]; omega
    clear h0
    go_enter Try.func62, Try.ntmps62
    go_wp2
    go_ret
    exact ⟨rfl, ext_alloc (ext_refl _) _⟩
  have t1 : ((l.length : Int) == 0) = false := by rw [beq_eq_false_iff_ne]; omega
  have H0 := Lib.hid h0
  have hp : 0 < l.length := by omega
  clear h0
  cases g0 : l.any badS with
  | true =>
    have HC := Lib.hid (checkM_bad (c := c) hm H0.out g0)
    rw [g0] at HCO
    go_enter Try.func62, Try.ntmps62
    go_wp2_with (go_at_call 72; refine (HCO.out _ (ext_alloc (ext_refl _) _)).mono ?_; rintro e w1 ⟨rfl, hx1⟩)
    go_ret
    exact ⟨ri HC.out.symm, ext_call (ext_alloc (ext_refl _) _) hx1⟩
  | false =>
    have HC := Lib.hid (checkM_end (c := c) hm H0.out g0)
    rw [g0] at HCO
    have hlast : l.length - 1 < l.length := by omega
    obtain ⟨b1, o1, x1, y1, rfl, hb1, e1, _, _, ca, cb⟩ := stp_at HL.out hlast
    have HLD := Lib.hid (lastDigit_at e1)
    clear e1
    have HRA := Lib.hid (fun (w1 : World) (hx : Ext w w1) => (hx.cells b1 (o1 + (l.length - 1) * 2) hb1).trans ca)
    clear ca cb
    by_cases hx1 : x1 = 0
    · have t2 : (x1 == 0) = true := by rw [beq_iff_eq]; exact hx1
      have HZ := Lib.hid hx1
      clear hx1
      go_enter Try.func62, Try.ntmps62
      go_wp2_with (first
        | (go_at_call 72; refine (HCO.out _ (ext_alloc (ext_refl _) _)).mono ?_; rintro e w1 ⟨rfl, hx1⟩; have cd := HRA.out w1 (ext_call (ext_alloc (ext_refl _) _) hx1); have hz1 := (hx1.cells w.heap.size 0 (by simp <;> omega)).trans (show _ = some (.slice (some ⟨b1, o1, none⟩) l.length c1) by go_simp); have hz2 := (hx1.cells w.heap.size 1 (by simp <;> omega)).trans (show _ = some (.int .i64 c) by go_simp); have HX1 := Lib.hid hx1; clear hx1)
        | (go_at_call 58; refine (within_any _ _ _ _).mono ?_; rintro e w2 ⟨rfl, rfl⟩))
      go_ret
      exact ⟨ri (by rw [HC.out, if_pos (.inl (HLD.out.trans HZ.out))]), ext_call (ext_alloc (ext_refl _) _) HX1.out⟩
    · have t2 : (x1 == 0) = false := by rw [beq_eq_false_iff_ne]; exact hx1
      have HZ := Lib.hid hx1
      clear hx1
      cases g1 : inB c 1 10000 with
      | false =>
        go_enter Try.func62, Try.ntmps62
        go_wp2_with (first
          | (go_at_call 72; refine (HCO.out _ (ext_alloc (ext_refl _) _)).mono ?_; rintro e w1 ⟨rfl, hx1⟩; have cd := HRA.out w1 (ext_call (ext_alloc (ext_refl _) _) hx1); have hz1 := (hx1.cells w.heap.size 0 (by simp <;> omega)).trans (show _ = some (.slice (some ⟨b1, o1, none⟩) l.length c1) by go_simp); have hz2 := (hx1.cells w.heap.size 1 (by simp <;> omega)).trans (show _ = some (.int .i64 c) by go_simp); have HX1 := Lib.hid hx1; clear hx1)
          | (go_at_call 58; refine (within_any _ _ _ _).mono ?_; rintro e w2 ⟨rfl, rfl⟩))
        go_ret
        exact ⟨ri (by rw [HC.out, if_pos (.inr g1)]), ext_call (ext_alloc (ext_refl _) _) HX1.out⟩
      | true =>
        go_enter Try.func62, Try.ntmps62
        go_wp2_with (first
          | (go_at_call 72; refine (HCO.out _ (ext_alloc (ext_refl _) _)).mono ?_; rintro e w1 ⟨rfl, hx1⟩; have cd := HRA.out w1 (ext_call (ext_alloc (ext_refl _) _) hx1); have hz1 := (hx1.cells w.heap.size 0 (by simp <;> omega)).trans (show _ = some (.slice (some ⟨b1, o1, none⟩) l.length c1) by go_simp); have hz2 := (hx1.cells w.heap.size 1 (by simp <;> omega)).trans (show _ = some (.int .i64 c) by go_simp); have HX1 := Lib.hid hx1; clear hx1)
          | (go_at_call 58; refine (within_any _ _ _ _).mono ?_; rintro e w2 ⟨rfl, rfl⟩))
        go_ret
        exact ⟨ri (by rw [HC.out, if_neg (by rw [HLD.out, g1]; simp [HZ.out])]), ext_call (ext_alloc (ext_refl _) _) HX1.out⟩
end Go.Proofs.Ytiladkinndgeaaa
/- A region that draws its order, whose operations read, and whose callees make memory of their own and leave all that lay there alone: one walk, in the order of the text. -/
namespace Cp
open Go Go.RowKit

/-- a world in which all that lay in w is as it was -/
structure Later (w : World) where
  at_ : World
  ext : Ext w at_

instance later_some {w : World} : Nonempty (Later w) := ⟨⟨w, ext_refl w⟩⟩
theorem Later.cells {w : World} (u : Later w) : ∀ b o, b < w.heap.size → u.at_.cell? ⟨b, o, none⟩ = w.cell? ⟨b, o, none⟩ := u.ext.cells
theorem wp_region_later {P : Program} {id : Nat} {Q : Exit → Act → World → Prop} {a : Act} {w : World} {l : List Oper} (hm : P.follows .mixedOrders = true) (hB : Region.lexB .any l.toArray = true)
    (h : (∀ (u : Later w) b o, b < w.heap.size → u.at_.cell? ⟨b, o, none⟩ = w.cell? ⟨b, o, none⟩) →
      wpQuiet P l.toArray (fun W => ∃ u : Later w, W = u.at_) (fun a' => ∀ w', (∃ u : Later w, w' = u.at_) → Q .normal a' w') l a) : (Code.region id l.toArray true).wp P Q a w :=
  wp_region_quiet (C := fun W => ∃ u : Later w, W = u.at_) hm hB ⟨⟨w.drew, ext_drew (ext_refl _)⟩, rfl⟩ (h fun u => u.cells)
/-- the world gets a name -/
theorem wp_name {P : Program} {c : Code} {Q : Exit → Act → World → Prop} {a : Act} {w : World} (h : ∀ W, W = w → Code.wp P c Q a W) : Code.wp P c Q a w := h w rfl
theorem later_of {P : Program} {f : FuncId} {args : Array Value} {w : World} {u : Later w} {v : Value} (h : Calls P f args u.at_ fun e w' => e = .returned v ∧ Ext u.at_ w') :
    Calls P f args u.at_ fun e w'' => e = .returned v ∧ ∃ u' : Later w, w'' = u'.at_ :=
  h.mono fun _ w' ⟨he, hx⟩ => ⟨he, ⟨w', ext_trans u.ext hx⟩, rfl⟩
theorem later_same {P : Program} {f : FuncId} {args : Array Value} {w : World} {u : Later w} {v : Value} (h : Calls P f args u.at_ fun e w' => e = .returned v ∧ u.at_ = w') :
    Calls P f args u.at_ fun e w'' => e = .returned v ∧ ∃ u' : Later w, w'' = u'.at_ :=
  h.mono fun _ _ ⟨he, hx⟩ => ⟨he, u, hx.symm⟩
end Cp
/- Atoms: as they lie; the order of two; what is wrong with them, step by step. -/
namespace Go.Proofs.Ytiladkinndgeaaa
open Go Go.RowKit Go.BigFrame Cp

theorem rmk_of' {F : Nat → Prop} {w : World} {v : Value} {l : List Stp} {c : Int} (h : RSl RStp 2 F w v l) (i : I64 c) : RMk F w [v, .int .i64 c] (l, c) := ⟨v, rfl, h, i⟩
theorem rat_of {F : Nat → Prop} {w : World} {v : Value} {l : List Stp} {c : Int} {s : UInt8} (h : RSl RStp 2 F w v l) (i : I64 c) : RAt F w [v, .int .i64 c, .int .u8 s.toNat] ((l, c), s) := ⟨v, rfl, h, i⟩
theorem atm_at {F : Nat → Prop} {w : World} {a : Option Addr} {n cap : Nat} {q : List At} (h : RSl RAt 3 F w (.slice a n cap) q) {i : Nat} (hi : i < n) :
    ∃ b o p c s ap cp, a = some ⟨b, o, none⟩ ∧ b < w.heap.size ∧ q[i]? = some ((p, c), s) ∧ I64 c ∧ RSl RStp 2 F w (.slice ap p.length cp) p ∧
      w.cell? ⟨b, o + i * 3, none⟩ = some (.slice ap p.length cp) ∧ w.cell? ⟨b, o + i * 3 + 1, none⟩ = some (.int .i64 c) ∧ w.cell? ⟨b, o + i * 3 + 2, none⟩ = some (.int .u8 (s : UInt8).toNat) := by
  obtain ⟨b, o, x, cs, e1, e2, e3, _, e4, v, rfl, h1, h2⟩ := h.at_ hi
  obtain ⟨ap, np, cp, rfl⟩ := h1.slice
  obtain ⟨rfl, _, _⟩ := h1.len
  exact ⟨b, o, x.1.1, x.1.2, x.2, ap, cp, e1, e2, e3, h2, h1, by simpa using e4 0 _ rfl, by simpa [Nat.add_assoc] using e4 1 _ rfl, by simpa [Nat.add_assoc] using e4 2 _ rfl⟩

/-- the mark ahead of a place -/
def prevA (l : List At) (k : Nat) : Option Mk := if k = 0 then none else (l[k - 1]?).map (·.1)
theorem checkA_many {l : List At} (h : 300 < l.length) : checkA l = 2 := by unfold checkA; rw [if_pos h]
theorem checkA_few {l : List At} (h : ¬ 300 < l.length) : checkA l = checkAF (prevA l 0) (l.drop 0) := by unfold checkA; rw [if_neg h]; rfl
theorem checkAF_end {l : List At} {k : Nat} {p : Option Mk} (h : l.length ≤ k) : checkAF p (l.drop k) = 0 := by rw [List.drop_eq_nil_of_le h]; unfold checkAF; rfl
theorem drop_at {α : Type} {l : List α} {k : Nat} {a : α} (h : l[k]? = some a) : l.drop k = a :: l.drop (k + 1) := by
  obtain ⟨h1, h2⟩ := List.getElem?_eq_some_iff.1 h
  rw [List.drop_eq_getElem_cons h1, h2]
theorem prevA_next {l : List At} {k : Nat} {a : At} (h : l[k]? = some a) : prevA l (k + 1) = some a.1 := by
  unfold prevA; rw [if_neg (by omega), Nat.add_sub_cancel, h]; rfl
theorem checkAF_mark {l : List At} {k : Nat} {a : At} {p : Option Mk} (h : l[k]? = some a) (h1 : ¬ checkM a.1 = 0) : checkAF p (l.drop k) = checkM a.1 := by
  rw [drop_at h]; unfold checkAF; rw [if_pos h1]
theorem checkAF_sign {l : List At} {k : Nat} {a : At} {p : Option Mk} (h : l[k]? = some a) (h1 : checkM a.1 = 0) (h2 : signB a.2 = false) : checkAF p (l.drop k) = 3 := by
  rw [drop_at h]; unfold checkAF; rw [if_neg (by rw [h1]; simp), if_pos h2]
theorem checkAF_first {l : List At} {k : Nat} {a : At} (h : l[k]? = some a) (h1 : checkM a.1 = 0) (h2 : signB a.2 = true) (hk : k = 0) : checkAF (prevA l k) (l.drop k) = checkAF (prevA l (k + 1)) (l.drop (k + 1)) := by
  subst hk
  rw [prevA_next h, drop_at h]
  have hp : prevA l 0 = none := rfl
  rw [hp]
  conv => lhs; unfold checkAF
  rw [if_neg (by rw [h1]; simp), if_neg (by rw [h2]; simp)]
  simp
theorem prevA_pos {l : List At} {k : Nat} {b : At} (hb : l[k - 1]? = some b) (hk : 0 < k) : prevA l k = some b.1 := by
  unfold prevA; rw [if_neg (by omega), hb]; rfl
theorem checkAF_bad {l : List At} {k : Nat} {a b : At} (h : l[k]? = some a) (hb : l[k - 1]? = some b) (hk : 0 < k) (h1 : checkM a.1 = 0) (h2 : signB a.2 = true) (h3 : 0 ≤ ordM b.1 a.1) : checkAF (prevA l k) (l.drop k) = 4 := by
  rw [prevA_pos hb hk, drop_at h]
  unfold checkAF
  rw [if_neg (by rw [h1]; simp), if_neg (by rw [h2]; simp), if_pos (by simpa using h3)]
theorem checkAF_next {l : List At} {k : Nat} {a b : At} (h : l[k]? = some a) (hb : l[k - 1]? = some b) (hk : 0 < k) (h1 : checkM a.1 = 0) (h2 : signB a.2 = true) (h3 : ¬ 0 ≤ ordM b.1 a.1) : checkAF (prevA l k) (l.drop k) = checkAF (prevA l (k + 1)) (l.drop (k + 1)) := by
  rw [prevA_next h, prevA_pos hb hk, drop_at h]
  conv => lhs; unfold checkAF
  rw [if_neg (by rw [h1]; simp), if_neg (by rw [h2]; simp), if_neg (by simpa using h3)]
end Go.Proofs.Ytiladkinndgeaaa
/- What is wrong with atoms, by the document. -/
namespace Go.Proofs.Ytiladkinndgeaaa
open Go Go.RowKit Go.BigFrame Cp

end Go.Proofs.Ytiladkinndgeaaa
/- What is wrong with atoms, by the program. -/
namespace Go.Proofs.Ytiladkinndgeaaa
open Go Go.RowKit Go.BigFrame Cp

end Go.Proofs.Ytiladkinndgeaaa
/- The place of a mark among atoms in order. -/
namespace Go.Proofs.Ytiladkinndgeaaa
open Go Go.RowKit Go.BigFrame Cp

theorem sortedA_lt : ∀ {l : List At}, SortedA l → ∀ (j : Nat) (a b : At) (i : Nat), i < j → l[i]? = some a → l[j]? = some b → ordM a.1 b.1 = -1
  | [], _, j, a, b, i, _, h, _ => by simp at h
  | [x], _, j, a, b, i, hij, _, h => by
    cases j with
    | zero => omega
    | succ j => simp at h
  | x :: y :: r, hs, j, a, b, i, hij, h1, h2 => by
    obtain ⟨hxy, hr⟩ := hs
    cases j with
    | zero => omega
    | succ j =>
      cases i with
      | succ i => exact sortedA_lt hr j a b i (by omega) (by simpa using h1) (by simpa using h2)
      | zero =>
        have e : x = a := by simpa using h1
        subst e
        have h2' : (y :: r)[j]? = some b := by simpa using h2
        cases j with
        | zero => have e : y = b := by simpa using h2'
                  subst e; exact hxy
        | succ j => exact ordM_trans hxy (sortedA_lt hr (j + 1) y b 0 (by omega) rfl h2')
/-- how many stand ahead of a mark -/
def placeA (l : List At) (m : Mk) : Nat := l.countP fun a => decide (ordM a.1 m < 0)
theorem placeA_le (l : List At) (m : Mk) : placeA l m ≤ l.length := List.countP_le_length
theorem placeA_is {l : List At} {m : Mk} {n : Nat} (hn : n ≤ l.length) (h1 : ∀ t a, l[t]? = some a → t < n → ordM a.1 m < 0) (h2 : ∀ t a, l[t]? = some a → n ≤ t → ¬ ordM a.1 m < 0) : placeA l m = n := by
  unfold placeA
  rw [← List.take_append_drop n l, List.countP_append]
  have e1 : (l.take n).countP (fun a => decide (ordM a.1 m < 0)) = (l.take n).length := by
    rw [List.countP_eq_length]
    intro a ha
    obtain ⟨t, ht, e⟩ := List.mem_iff_getElem.1 ha
    have ht' : t < n := by rw [List.length_take] at ht; omega
    exact decide_eq_true (h1 t a (by rw [← List.getElem?_take_of_lt ht', List.getElem?_eq_getElem ht, e]) ht')
  have e2 : (l.drop n).countP (fun a => decide (ordM a.1 m < 0)) = 0 := by
    rw [List.countP_eq_zero]
    intro a ha
    obtain ⟨t, ht, e⟩ := List.mem_iff_getElem.1 ha
    have := h2 (n + t) a (by rw [← List.getElem?_drop, List.getElem?_eq_getElem ht, e]) (by omega)
    simpa using this
  rw [e1, e2, List.length_take]; omega
/-- how far a search between two places has come -/
def Halves (l : List At) (m : Mk) (i j : Nat) : Prop := i ≤ j ∧ j ≤ l.length ∧ (∀ t a, l[t]? = some a → t < i → ordM a.1 m < 0) ∧ ∀ t a, l[t]? = some a → j ≤ t → ¬ ordM a.1 m < 0
theorem halves_start (l : List At) (m : Mk) : Halves l m 0 l.length :=
  ⟨Nat.zero_le _, Nat.le_refl _, fun t a _ h => by omega, fun t a h ht => by rw [List.getElem?_eq_none ht] at h; cases h⟩
theorem halves_low {l : List At} {m : Mk} {i j h : Nat} {a : At} (hs : SortedA l) (hh : Halves l m i j) (h1 : h < j) (e : l[h]? = some a) (ho : ordM a.1 m < 0) : Halves l m (h + 1) j := by
  refine ⟨by omega, hh.2.1, fun t b hb ht => ?_, hh.2.2.2⟩
  by_cases h2 : t = h
  · subst h2
    have : a = b := by rw [e] at hb; simpa using hb
    subst this; exact ho
  · exact ordM_lt.2 (ordM_trans (sortedA_lt hs h b a t (by omega) hb e) (ordM_lt.1 ho))
theorem halves_high {l : List At} {m : Mk} {i j h : Nat} {a : At} (hs : SortedA l) (hh : Halves l m i j) (h0 : i ≤ h) (h1 : h < j) (e : l[h]? = some a) (ho : ¬ ordM a.1 m < 0) : Halves l m i h := by
  refine ⟨h0, by have := hh.2.1; omega, hh.2.2.1, fun t b hb ht hlt => ?_⟩
  by_cases h2 : t = h
  · subst h2
    have : a = b := by rw [e] at hb; simpa using hb
    subst this; exact ho hlt
  · exact ho (ordM_lt.2 (ordM_trans (sortedA_lt hs t a b h (by omega) e hb) (ordM_lt.1 hlt)))
theorem halves_end {l : List At} {m : Mk} {i : Nat} (hh : Halves l m i i) : placeA l m = i := placeA_is hh.2.1 hh.2.2.1 hh.2.2.2
theorem hasM_far {l : List At} {m : Mk} {i : Nat} (hh : Halves l m i i) (h : l.length ≤ i) : hasM l m = false := by
  unfold hasM
  rw [List.any_eq_false]
  intro a ha
  obtain ⟨t, ht, e⟩ := List.mem_iff_getElem.1 ha
  have := hh.2.2.1 t a (by rw [List.getElem?_eq_getElem ht, e]) (by omega)
  simp; omega
theorem hasM_near {l : List At} {m : Mk} {i : Nat} {a : At} (hs : SortedA l) (hh : Halves l m i i) (e : l[i]? = some a) : hasM l m = (ordM a.1 m == 0) := by
  cases h : (ordM a.1 m == 0) with
  | true =>
    unfold hasM
    rw [List.any_eq_true]
    exact ⟨a, List.mem_of_getElem? e, by simpa using h⟩
  | false =>
    unfold hasM
    rw [List.any_eq_false]
    intro b hb
    obtain ⟨t, ht, e2⟩ := List.mem_iff_getElem.1 hb
    have e3 : l[t]? = some b := by rw [List.getElem?_eq_getElem ht, e2]
    have h0 : ¬ ordM a.1 m = 0 := by simpa using h
    have hr := ordM_range a.1 m
    have h1 := hh.2.2.2 i a e (Nat.le_refl _)
    simp only [decide_eq_true_eq]
    intro hz
    have hbm := ordM_zero.1 hz
    rcases Nat.lt_trichotomy t i with hlt | rfl | hgt
    · have := hh.2.2.1 t b e3 hlt; omega
    · rw [e] at e3
      have : a = b := by simpa using e3
      subst this; exact h0 hz
    · have := sortedA_lt hs t a b i hgt e e3
      rw [hbm] at this; omega

def IsFound (n : Nat) (b : Bool) (w : World) (e : Ending) (w' : World) : Prop := e = .returned (.tuple #[.int .i64 n, .bool b]) ∧ Ext w w'
end Go.Proofs.Ytiladkinndgeaaa
/- What is wrong with a state: step by step. -/
namespace Go.Proofs.Ytiladkinndgeaaa
open Go Go.RowKit Go.BigFrame Cp

theorem mark_at {F : Nat → Prop} {w : World} {a : Option Addr} {n cap : Nat} {q : List Mk} (h : RSl RMk 2 F w (.slice a n cap) q) {i : Nat} (hi : i < n) :
    ∃ b o p c ap cp, a = some ⟨b, o, none⟩ ∧ b < w.heap.size ∧ q[i]? = some (p, c) ∧ I64 c ∧ RSl RStp 2 F w (.slice ap p.length cp) p ∧
      w.cell? ⟨b, o + i * 2, none⟩ = some (.slice ap p.length cp) ∧ w.cell? ⟨b, o + i * 2 + 1, none⟩ = some (.int .i64 c) := by
  obtain ⟨b, o, x, cs, e1, e2, e3, _, e4, v, rfl, h1, h2⟩ := h.at_ hi
  obtain ⟨ap, np, cp, rfl⟩ := h1.slice
  obtain ⟨rfl, _, _⟩ := h1.len
  exact ⟨b, o, x.1, x.2, ap, cp, e1, e2, e3, h2, h1, by simpa using e4 0 _ rfl, by simpa [Nat.add_assoc] using e4 1 _ rfl⟩

def checkGF (ats : List At) (prev : Option Mk) : List Mk → Int
  | [] => 0
  | m :: r =>
    if checkM m ≠ 0 then checkM m
    else if (match prev with | some p => decide (0 ≤ ordM p m) | none => false) then 4
    else if hasM ats m = true then 4
    else checkGF ats (some m) r
def checkS (s : St) : Int := if checkA s.1 ≠ 0 then checkA s.1 else if 600 < s.2.length then 2 else checkGF s.1 none s.2
def prevG (l : List Mk) (k : Nat) : Option Mk := if k = 0 then none else l[k - 1]?
section
variable {ats : List At} {l : List Mk} {k : Nat} {a b : Mk} {p : Option Mk}
theorem checkS_atoms (h : ¬ checkA ats = 0) : checkS (ats, l) = checkA ats := by unfold checkS; rw [if_pos h]
theorem checkS_many (h : checkA ats = 0) (h2 : 600 < l.length) : checkS (ats, l) = 2 := by unfold checkS; rw [if_neg (by simpa using h), if_pos h2]
theorem checkS_few (h : checkA ats = 0) (h2 : ¬ 600 < l.length) : checkS (ats, l) = checkGF ats (prevG l 0) (l.drop 0) := by unfold checkS; rw [if_neg (by simpa using h), if_neg h2]; rfl
theorem checkA_ok (h : checkA ats = 0) : ats.length ≤ 300 ∧ SortedA ats ∧ ∀ a ∈ ats, checkM a.1 = 0 ∧ signB a.2 = true := by
  by_cases hm : 300 < ats.length
  · rw [checkA_many hm] at h; omega
  · rw [checkA_few hm] at h
    have := checkAF_ok.1 h
    exact ⟨by omega, this.2.1, this.1⟩
theorem checkGF_end (h : l.length ≤ k) : checkGF ats p (l.drop k) = 0 := by rw [List.drop_eq_nil_of_le h]; unfold checkGF; rfl
theorem prevG_next (h : l[k]? = some a) : prevG l (k + 1) = some a := by unfold prevG; rw [if_neg (by omega), Nat.add_sub_cancel, h]
theorem prevG_pos (hb : l[k - 1]? = some b) (hk : 0 < k) : prevG l k = some b := by unfold prevG; rw [if_neg (by omega), hb]
theorem checkGF_mark (h : l[k]? = some a) (h1 : ¬ checkM a = 0) : checkGF ats p (l.drop k) = checkM a := by rw [drop_at h]; unfold checkGF; rw [if_pos h1]
theorem checkGF_bad (h : l[k]? = some a) (hb : l[k - 1]? = some b) (hk : 0 < k) (h1 : checkM a = 0) (h3 : 0 ≤ ordM b a) : checkGF ats (prevG l k) (l.drop k) = 4 := by
  rw [prevG_pos hb hk, drop_at h]; unfold checkGF; rw [if_neg (by rw [h1]; simp), if_pos (by simpa using h3)]
theorem checkGF_first (h : l[k]? = some a) (h1 : checkM a = 0) (hk : k = 0) : checkGF ats (prevG l k) (l.drop k) = if hasM ats a = true then 4 else checkGF ats (prevG l (k + 1)) (l.drop (k + 1)) := by
  rw [prevG_next h, drop_at h]
  subst hk
  have hp : prevG l 0 = none := rfl
  rw [hp]
  conv => lhs; unfold checkGF
  rw [if_neg (by rw [h1]; simp)]
  simp
theorem checkGF_next (h : l[k]? = some a) (hb : l[k - 1]? = some b) (hk : 0 < k) (h1 : checkM a = 0) (h3 : ¬ 0 ≤ ordM b a) : checkGF ats (prevG l k) (l.drop k) = if hasM ats a = true then 4 else checkGF ats (prevG l (k + 1)) (l.drop (k + 1)) := by
  rw [prevG_next h, prevG_pos hb hk, drop_at h]
  conv => lhs; unfold checkGF
  rw [if_neg (by rw [h1]; simp), if_neg (by simpa using h3)]
end
theorem rst_of {F : Nat → Prop} {w : World} {v u : Value} {a : List At} {g : List Mk} (h : RSl RAt 3 F w v a) (k : RSl RMk 2 F w u g) : RSt F w [v, u] (a, g) := ⟨v, u, rfl, h, k⟩
end Go.Proofs.Ytiladkinndgeaaa
/- Plain facts on atoms that are put: one more atom among atoms in order; many. -/
namespace Go.Proofs.Ytiladkinndgeaaa
open Go Go.RowKit Cp

def mnS (x y : UInt8) : UInt8 := if y < x then y else x
def putA : List At → At → List At
  | [], a => [a]
  | x :: r, a => if ordM x.1 a.1 = 0 then (x.1, mnS x.2 a.2) :: r else if ordM x.1 a.1 = 1 then a :: x :: r else x :: putA r a
theorem putA_cons (x : At) (r : List At) (a : At) : putA (x :: r) a = if ordM x.1 a.1 = 0 then (x.1, mnS x.2 a.2) :: r else if ordM x.1 a.1 = 1 then a :: x :: r else x :: putA r a := rfl
def mergeA (l m : List At) : List At := m.foldl putA l
def takeA (l : List At) (ms : List Mk) : List At := l.filter fun a => !hasG ms a.1
/-- atoms that are right, but may be many -/
def RightA (l : List At) : Prop := SortedA l ∧ ∀ a ∈ l, checkM a.1 = 0 ∧ signB a.2 = true
theorem right_of {l : List At} (h : checkA l = 0) : RightA l := ⟨(checkA_ok h).2.1, (checkA_ok h).2.2⟩
theorem right_to {l : List At} (h : RightA l) : checkA l = if 300 < l.length then 2 else 0 := by
  unfold checkA
  by_cases h1 : 300 < l.length
  · rw [if_pos h1, if_pos h1]
  · rw [if_neg h1, if_neg h1]
    exact checkAF_ok.2 ⟨h.2, h.1, by simp⟩
theorem sortedA_tail {x : At} {r : List At} (h : SortedA (x :: r)) : SortedA r := by
  cases r with
  | nil => trivial
  | cons b r => exact h.2
theorem sortedA_head {x : At} {r : List At} (h : SortedA (x :: r)) : ∀ b ∈ r, ordM x.1 b.1 = -1 := by
  intro b hb
  obtain ⟨j, hj⟩ := List.getElem?_of_mem hb
  exact sortedA_lt h (j + 1) x b 0 (by omega) rfl (by simpa using hj)
theorem sortedA_mk {x : At} {r : List At} (h : SortedA r) (k : ∀ b ∈ r, ordM x.1 b.1 = -1) : SortedA (x :: r) := by
  cases r with
  | nil => trivial
  | cons b r => exact ⟨k b (by simp), h⟩
theorem ordM_swap {a b : Mk} (h : ordM a b = 1) : ordM b a = -1 := by have := ordM_anti a b; omega
theorem ordM_swap' {a b : Mk} (h : ordM a b = -1) : ordM b a = 1 := by have := ordM_anti a b; omega
theorem ordM_up {a b c : Mk} (h : ordM a b = -1) (k : 0 ≤ ordM a c) : ordM b c = 1 := by
  rcases ordM_range b c with h1 | h1 | h1
  · have := ordM_trans h h1; omega
  · rw [ordM_zero] at h1; subst h1; omega
  · exact h1
theorem placeA_cons (x : At) (r : List At) (m : Mk) : placeA (x :: r) m = placeA r m + if ordM x.1 m < 0 then 1 else 0 := by
  unfold placeA
  rw [List.countP_cons]
  simp
theorem hasM_cons (x : At) (r : List At) (m : Mk) : hasM (x :: r) m = (decide (ordM x.1 m = 0) || hasM r m) := by simp [hasM]
theorem place_none {r : List At} {m : Mk} (h : ∀ b ∈ r, ordM b.1 m = 1) : placeA r m = 0 ∧ hasM r m = false := by
  constructor
  · unfold placeA
    rw [List.countP_eq_zero]
    intro b hb
    have := h b hb
    simp; omega
  · unfold hasM
    rw [List.any_eq_false]
    intro b hb
    have := h b hb
    simp; omega
theorem putA_has : ∀ {l : List At} {a : At}, SortedA l → hasM l a.1 = true → ∃ x, l[placeA l a.1]? = some x ∧ x.1 = a.1 ∧ putA l a = l.set (placeA l a.1) (x.1, mnS x.2 a.2)
  | [], a, _, h => by simp [hasM] at h
  | x :: r, a, hs, h => by
    have hr := sortedA_head hs
    rw [placeA_cons]
    rcases ordM_range x.1 a.1 with h1 | h1 | h1
    · rw [hasM_cons, decide_eq_false (by omega), Bool.false_or] at h
      obtain ⟨y, e1, e2, e3⟩ := putA_has (sortedA_tail hs) h
      refine ⟨y, ?_, e2, ?_⟩
      · rw [if_pos (by omega)]; simpa using e1
      · unfold putA
        rw [if_neg (by omega), if_neg (by omega), if_pos (by omega), e3]; rfl
    · obtain ⟨e1, _⟩ := place_none (r := r) (m := a.1) (fun b hb => ordM_up (hr b hb) (by omega))
      rw [e1, if_neg (by omega)]
      refine ⟨x, rfl, ordM_zero.1 h1, ?_⟩
      unfold putA
      rw [if_pos h1]; rfl
    · exfalso
      rw [hasM_cons, decide_eq_false (by omega), Bool.false_or, (place_none (r := r) (m := a.1) (fun b hb => ordM_up (hr b hb) (by omega))).2] at h
      simp at h
theorem putA_new : ∀ {l : List At} {a : At}, SortedA l → hasM l a.1 = false → putA l a = l.take (placeA l a.1) ++ a :: l.drop (placeA l a.1)
  | [], a, _, _ => by simp [putA]
  | x :: r, a, hs, h => by
    have hr := sortedA_head hs
    rw [hasM_cons, Bool.or_eq_false_iff] at h
    have h0 : ordM x.1 a.1 ≠ 0 := by simpa using h.1
    rw [placeA_cons]
    unfold putA
    rw [if_neg h0]
    by_cases h1 : ordM x.1 a.1 = 1
    · rw [if_pos h1, (place_none (r := r) (m := a.1) (fun b hb => ordM_up (hr b hb) (by omega))).1, if_neg (by omega)]; rfl
    · have h2 : ordM x.1 a.1 = -1 := by rcases ordM_range x.1 a.1 with h3 | h3 | h3 <;> omega
      rw [if_neg h1, if_pos (by omega), putA_new (sortedA_tail hs) h.2]; rfl
theorem putA_mem : ∀ {l : List At} {a b : At}, b ∈ putA l a → (b.1 = a.1 ∨ ∃ x ∈ l, x.1 = b.1) ∧ (b.2 = a.2 ∨ ∃ x ∈ l, x.2 = b.2)
  | [], a, b, h => by
    have : b = a := by simpa [putA] using h
    subst this; exact ⟨.inl rfl, .inl rfl⟩
  | x :: r, a, b, h => by
    unfold putA at h
    by_cases h1 : ordM x.1 a.1 = 0
    · rw [if_pos h1] at h
      rcases List.mem_cons.1 h with rfl | h
      · refine ⟨.inr ⟨x, by simp, rfl⟩, ?_⟩
        show mnS x.2 a.2 = a.2 ∨ ∃ y ∈ x :: r, y.2 = mnS x.2 a.2
        unfold mnS
        split
        · exact .inl rfl
        · exact .inr ⟨x, by simp, rfl⟩
      · exact ⟨.inr ⟨b, by simp [h], rfl⟩, .inr ⟨b, by simp [h], rfl⟩⟩
    · rw [if_neg h1] at h
      by_cases h2 : ordM x.1 a.1 = 1
      · rw [if_pos h2] at h
        rcases List.mem_cons.1 h with rfl | h
        · exact ⟨.inl rfl, .inl rfl⟩
        · exact ⟨.inr ⟨b, h, rfl⟩, .inr ⟨b, h, rfl⟩⟩
      · rw [if_neg h2] at h
        rcases List.mem_cons.1 h with rfl | h
        · exact ⟨.inr ⟨b, by simp, rfl⟩, .inr ⟨b, by simp, rfl⟩⟩
        · obtain ⟨g1, g2⟩ := putA_mem h
          exact ⟨g1.imp id fun ⟨y, hy, e⟩ => ⟨y, by simp [hy], e⟩, g2.imp id fun ⟨y, hy, e⟩ => ⟨y, by simp [hy], e⟩⟩
theorem putA_sorted : ∀ {l : List At} {a : At}, SortedA l → SortedA (putA l a)
  | [], a, _ => trivial
  | x :: r, a, hs => by
    have hr := sortedA_head hs
    have ht := sortedA_tail hs
    unfold putA
    by_cases h1 : ordM x.1 a.1 = 0
    · rw [if_pos h1]; exact sortedA_mk ht hr
    · rw [if_neg h1]
      by_cases h2 : ordM x.1 a.1 = 1
      · rw [if_pos h2]
        refine sortedA_mk hs (fun b hb => ?_)
        rcases List.mem_cons.1 hb with rfl | hb
        · exact ordM_swap h2
        · exact ordM_trans (ordM_swap h2) (hr b hb)
      · rw [if_neg h2]
        refine sortedA_mk (putA_sorted ht) (fun b hb => ?_)
        have h3 : ordM x.1 a.1 = -1 := by rcases ordM_range x.1 a.1 with h3 | h3 | h3 <;> omega
        rcases (putA_mem hb).1 with e | ⟨y, hy, e⟩
        · rw [e]; exact h3
        · rw [← e]; exact hr y hy
theorem putA_right {l : List At} {a : At} (h : RightA l) (h1 : checkM a.1 = 0) (h2 : signB a.2 = true) : RightA (putA l a) := by
  refine ⟨putA_sorted h.1, fun b hb => ?_⟩
  obtain ⟨g1, g2⟩ := putA_mem hb
  constructor
  · rcases g1 with e | ⟨x, hx, e⟩
    · rw [e]; exact h1
    · rw [← e]; exact (h.2 x hx).1
  · rcases g2 with e | ⟨x, hx, e⟩
    · rw [e]; exact h2
    · rw [← e]; exact (h.2 x hx).2
theorem putA_len : ∀ (l : List At) (a : At), (putA l a).length ≤ l.length + 1
  | [], a => by simp [putA]
  | x :: r, a => by
    unfold putA
    split
    · simp
    · split
      · simp
      · have := putA_len r a
        simp; omega
theorem mergeA_right : ∀ {m l : List At}, RightA l → (∀ a ∈ m, checkM a.1 = 0 ∧ signB a.2 = true) → RightA (mergeA l m)
  | [], l, h, _ => h
  | a :: m, l, h, hm => mergeA_right (m := m) (l := putA l a) (putA_right h (hm a (by simp)).1 (hm a (by simp)).2) (fun b hb => hm b (by simp [hb]))
theorem mergeA_len : ∀ (m l : List At), (mergeA l m).length ≤ l.length + m.length
  | [], l => by simp [mergeA]
  | a :: m, l => by
    have h1 := mergeA_len m (putA l a)
    have h2 := putA_len l a
    have e : mergeA l (a :: m) = mergeA (putA l a) m := rfl
    rw [e, List.length_cons]; omega
theorem mergeA_take {l m : List At} {k : Nat} {a : At} (h : m[k]? = some a) : mergeA l (m.take (k + 1)) = putA (mergeA l (m.take k)) a := by
  obtain ⟨h1, h2⟩ := List.getElem?_eq_some_iff.1 h
  unfold mergeA
  rw [List.take_succ_eq_append_getElem h1, h2, List.foldl_append]; rfl
/-- the document's loop: behind k atoms it holds out, and knows whether a has been put -/
def DocPut (l : List At) (a : At) (k : Nat) (out : List At) (put : Bool) : Prop :=
  out ++ (if put = true then l.drop k else putA (l.drop k) a) = putA l a ∧ (put = true → ∀ x ∈ l.drop k, ordM x.1 a.1 = 1) ∧ out.length ≤ k + 1 ∧ (put = false → out.length ≤ k)
theorem docPut_start (l : List At) (a : At) : DocPut l a 0 [] false := ⟨by simp, by simp, by simp, by simp⟩
theorem docPut_new {l : List At} {a x : At} {k : Nat} {out : List At} (hs : SortedA (l.drop k)) (h : DocPut l a k out false) (hx : l[k]? = some x) (h1 : ordM x.1 a.1 = 1) : DocPut l a (k + 1) (out ++ [a] ++ [x]) true := by
  obtain ⟨e, _, hl, hl2⟩ := h
  have hd := drop_at hx
  rw [hd] at hs e
  have hh := sortedA_head hs
  refine ⟨?_, fun _ y hy => ordM_up (hh y hy) (by omega), ?_, by simp⟩
  · simp only [if_true]
    rw [if_neg (by simp)] at e
    rw [putA_cons] at e
    rw [if_neg (by omega), if_pos h1] at e
    rw [← e]; simp
  · have := hl2 rfl
    simp; omega
theorem docPut_same {l : List At} {a x : At} {k : Nat} {out : List At} (hs : SortedA (l.drop k)) (h : DocPut l a k out false) (hx : l[k]? = some x) (h1 : ordM x.1 a.1 = 0) : DocPut l a (k + 1) (out ++ [(x.1, mnS x.2 a.2)]) true := by
  obtain ⟨e, _, hl, hl2⟩ := h
  have hd := drop_at hx
  rw [hd] at hs e
  have hh := sortedA_head hs
  refine ⟨?_, fun _ y hy => ordM_up (hh y hy) (by omega), ?_, by simp⟩
  · simp only [if_true]
    rw [if_neg (by simp)] at e
    rw [putA_cons] at e
    rw [if_pos h1] at e
    rw [← e]; simp
  · have := hl2 rfl
    simp; omega
theorem docPut_less {l : List At} {a x : At} {k : Nat} {out : List At} (h : DocPut l a k out false) (hx : l[k]? = some x) (h1 : ordM x.1 a.1 = -1) : DocPut l a (k + 1) (out ++ [x]) false := by
  obtain ⟨e, _, hl, hl2⟩ := h
  have hd := drop_at hx
  rw [hd] at e
  refine ⟨?_, by simp, ?_, ?_⟩
  · rw [if_neg (by simp)] at e ⊢
    rw [putA_cons] at e
    rw [if_neg (by omega), if_neg (by omega)] at e
    rw [← e]; simp
  · have := hl2 rfl
    simp; omega
  · intro _; have := hl2 rfl
    simp; omega
theorem docPut_put {l : List At} {a x : At} {k : Nat} {out : List At} (h : DocPut l a k out true) (hx : l[k]? = some x) : ordM x.1 a.1 = 1 ∧ DocPut l a (k + 1) (out ++ [x]) true := by
  obtain ⟨e, hp, hl, _⟩ := h
  have hd := drop_at hx
  rw [hd] at e hp
  refine ⟨hp rfl x (by simp), ?_, fun _ y hy => hp rfl y (by simp [hy]), by simp; omega, by simp⟩
  simp only [if_true] at e ⊢
  rw [← e]; simp
theorem docPut_end {l : List At} {a : At} {out : List At} {put : Bool} (h : DocPut l a l.length out put) : (if put = true then out else out ++ [a]) = putA l a := by
  obtain ⟨e, _⟩ := h
  rw [List.drop_length] at e
  cases put
  · simpa [putA] using e
  · simpa using e
theorem takeA_step {l : List At} {ms : List Mk} {k : Nat} {a : At} (h : l[k]? = some a) : takeA (l.take (k + 1)) ms = takeA (l.take k) ms ++ if hasG ms a.1 = true then [] else [a] := by
  obtain ⟨h1, h2⟩ := List.getElem?_eq_some_iff.1 h
  unfold takeA
  rw [List.take_succ_eq_append_getElem h1, h2, List.filter_append]
  cases h3 : hasG ms a.1 <;> simp [h3]
end Go.Proofs.Ytiladkinndgeaaa
/- Plain facts on atoms: sorted atoms are what is to be seen of them at each mark; put in whatever order they are the same; what is taken is gone. -/
namespace Go.Proofs.Ytiladkinndgeaaa
open Go Go.RowKit Cp

theorem mnS_comm (x y : UInt8) : mnS x y = mnS y x := by
  unfold mnS
  by_cases h : y < x
  · rw [if_pos h, if_neg (by have := UInt8.lt_iff_toNat_lt.1 h; rw [UInt8.lt_iff_toNat_lt]; omega)]
  · by_cases h2 : x < y
    · rw [if_neg h, if_pos h2]
    · rw [if_neg h, if_neg h2]
      rw [UInt8.lt_iff_toNat_lt] at h h2
      exact UInt8.toNat_inj.1 (by omega)
theorem mnS_toNat (x y : UInt8) : (mnS x y).toNat = min x.toNat y.toNat := by
  unfold mnS
  by_cases h : y < x
  · rw [if_pos h]; rw [UInt8.lt_iff_toNat_lt] at h; omega
  · rw [if_neg h]; rw [UInt8.lt_iff_toNat_lt] at h; omega
theorem mnS_assoc (x y z : UInt8) : mnS (mnS x y) z = mnS x (mnS y z) := by
  apply UInt8.toNat_inj.1
  simp only [mnS_toNat]; omega
theorem mnS_self (x : UInt8) : mnS x x = x := by apply UInt8.toNat_inj.1; rw [mnS_toNat]; omega
/-- two signs, or none, as one -/
def comb : Option UInt8 → Option UInt8 → Option UInt8
  | none, y => y
  | some x, none => some x
  | some x, some y => some (mnS x y)
theorem comb_comm (x y : Option UInt8) : comb x y = comb y x := by
  cases x <;> cases y <;> simp [comb, mnS_comm]
theorem comb_assoc (x y z : Option UInt8) : comb (comb x y) z = comb x (comb y z) := by
  cases x <;> cases y <;> cases z <;> simp [comb, mnS_assoc]
theorem comb_none (x : Option UInt8) : comb x none = x := by cases x <;> rfl
def one (a : At) (x : Mk) : Option UInt8 := if ordM a.1 x = 0 then some a.2 else none
/-- the sign that is to be seen at a mark -/
def look : List At → Mk → Option UInt8
  | [], _ => none
  | a :: r, x => comb (one a x) (look r x)
theorem look_cons (a : At) (r : List At) (x : Mk) : look (a :: r) x = comb (one a x) (look r x) := rfl
theorem one_same {a b : At} {x : Mk} (h : ordM a.1 b.1 = 0) : comb (one a x) (one b x) = one (a.1, mnS a.2 b.2) x := by
  have e : a.1 = b.1 := ordM_zero.1 h
  unfold one
  rw [← e]
  by_cases h2 : ordM a.1 x = 0
  · rw [if_pos h2, if_pos h2, if_pos h2]; rfl
  · rw [if_neg h2, if_neg h2, if_neg h2]; rfl
theorem look_put : ∀ (l : List At) (a : At) (x : Mk), look (putA l a) x = comb (look l x) (one a x)
  | [], a, x => by simp only [putA, look, comb_none]; rfl
  | b :: r, a, x => by
    rw [putA_cons]
    by_cases h1 : ordM b.1 a.1 = 0
    · rw [if_pos h1, look_cons, look_cons, ← one_same h1, comb_assoc, comb_assoc, comb_comm (one a x)]
    · rw [if_neg h1]
      by_cases h2 : ordM b.1 a.1 = 1
      · rw [if_pos h2, look_cons, comb_comm]
      · rw [if_neg h2, look_cons, look_put r a x, look_cons, comb_assoc]
theorem look_merge : ∀ (m l : List At) (x : Mk), look (mergeA l m) x = comb (look l x) (look m x)
  | [], l, x => by simp only [mergeA, List.foldl_nil, look, comb_none]
  | a :: m, l, x => by
    have e : mergeA l (a :: m) = mergeA (putA l a) m := rfl
    rw [e, look_merge m, look_put, look_cons, comb_assoc]
theorem look_none {r : List At} {x : Mk} (h : ∀ b ∈ r, ordM b.1 x ≠ 0) : look r x = none := by
  induction r with
  | nil => rfl
  | cons b r ih =>
    rw [look_cons, ih (fun c hc => h c (by simp [hc]))]
    unfold one
    rw [if_neg (h b (by simp))]; rfl
theorem ordM_self (a : Mk) : ordM a a = 0 := ordM_zero.2 rfl
theorem look_head {a : At} {r : List At} (h : SortedA (a :: r)) : look (a :: r) a.1 = some a.2 := by
  rw [look_cons, look_none (fun b hb => by have := ordM_swap' (sortedA_head h b hb); omega), comb_none]
  unfold one
  rw [if_pos (ordM_self _)]
theorem look_ahead {a : At} {r : List At} {x : Mk} (h : SortedA (a :: r)) (h1 : ordM x a.1 = -1) : look (a :: r) x = none := by
  refine look_none (fun b hb => ?_)
  rcases List.mem_cons.1 hb with rfl | hb
  · have := ordM_swap' h1; omega
  · have := ordM_swap' (ordM_trans h1 (sortedA_head h b hb)); omega
theorem look_eq : ∀ {l m : List At}, SortedA l → SortedA m → (∀ x, look l x = look m x) → l = m
  | [], [], _, _, _ => rfl
  | [], b :: s, _, hm, h => by have := h b.1; rw [look_head hm] at this; simp [look] at this
  | a :: r, [], hl, _, h => by have := h a.1; rw [look_head hl] at this; simp [look] at this
  | a :: r, b :: s, hl, hm, h => by
    rcases ordM_range a.1 b.1 with h1 | h1 | h1
    · have := h a.1; rw [look_head hl, look_ahead hm h1] at this; simp at this
    · have e1 : a.1 = b.1 := ordM_zero.1 h1
      have e2 : a.2 = b.2 := by
        have h2 := h a.1
        rw [look_head hl, e1, look_head hm] at h2
        exact Option.some.inj h2
      have e : a = b := Prod.ext e1 e2
      subst e
      have : r = s := by
        refine look_eq (sortedA_tail hl) (sortedA_tail hm) (fun x => ?_)
        by_cases h2 : ordM a.1 x = 0
        · have e3 : a.1 = x := ordM_zero.1 h2
          subst e3
          rw [look_none (fun b hb => by have := ordM_swap' (sortedA_head hl b hb); omega), look_none (fun b hb => by have := ordM_swap' (sortedA_head hm b hb); omega)]
        · have h3 := h x
          rw [look_cons, look_cons] at h3
          unfold one at h3
          rw [if_neg h2] at h3
          exact h3
      rw [this]
    · have := h b.1; rw [look_head hm, look_ahead hl (ordM_swap h1)] at this; simp at this
theorem merge_comm {l m : List At} (hl : RightA l) (hm : RightA m) : mergeA l m = mergeA m l :=
  look_eq (mergeA_right hl hm.2).1 (mergeA_right hm hl.2).1 (fun x => by rw [look_merge, look_merge, comb_comm])
theorem merge_assoc {l m n : List At} (hl : RightA l) (hm : RightA m) (hn : RightA n) : mergeA l (mergeA m n) = mergeA (mergeA l m) n :=
  look_eq (mergeA_right hl (mergeA_right hm hn.2).2).1 (mergeA_right (mergeA_right hl hm.2) hn.2).1 (fun x => by rw [look_merge, look_merge, look_merge, look_merge, comb_assoc])
theorem takeA_len (l : List At) (ms : List Mk) : (takeA l ms).length ≤ l.length := List.length_filter_le _ _
theorem hasM_take {l : List At} {ms : List Mk} {a : At} (h : a ∈ l) : hasM (takeA l ms) a.1 = !hasG ms a.1 := by
  cases hg : hasG ms a.1 with
  | true =>
    unfold hasM
    rw [Bool.not_true, List.any_eq_false]
    intro b hb
    have hb2 := (List.mem_filter.1 hb).2
    have : ordM b.1 a.1 ≠ 0 := fun e => by rw [ordM_zero.1 e, hg] at hb2; simp at hb2
    simpa using this
  | false =>
    unfold hasM
    rw [Bool.not_false, List.any_eq_true]
    exact ⟨a, List.mem_filter.2 ⟨h, by simp [hg]⟩, by simpa using ordM_self a.1⟩
end Go.Proofs.Ytiladkinndgeaaa
/- Plain facts on deeds that are done: one mark more among marks in order; a deed; deeds; what the document does, step by step. -/
namespace Go.Proofs.Ytiladkinndgeaaa
open Go Go.RowKit Cp

/-- marks in order -/
def SortedG : List Mk → Prop
  | [] => True
  | [_] => True
  | a :: b :: r => ordM a b = -1 ∧ SortedG (b :: r)
theorem sortedG_tail {x : Mk} {r : List Mk} (h : SortedG (x :: r)) : SortedG r := by
  cases r with
  | nil => trivial
  | cons b r => exact h.2
theorem sortedG_head : ∀ {r : List Mk} {x : Mk}, SortedG (x :: r) → ∀ b ∈ r, ordM x b = -1
  | [], _, _, b, hb => by simp at hb
  | c :: r, x, h, b, hb => by
    rcases List.mem_cons.1 hb with rfl | hb
    · exact h.1
    · exact ordM_trans h.1 (sortedG_head h.2 b hb)
theorem sortedG_mk {x : Mk} {r : List Mk} (h : SortedG r) (k : ∀ b ∈ r, ordM x b = -1) : SortedG (x :: r) := by
  cases r with
  | nil => trivial
  | cons b r => exact ⟨k b (by simp), h⟩
/-- one mark more, if it is not there -/
def putG : List Mk → Mk → List Mk
  | [], m => [m]
  | x :: r, m => if ordM x m = 0 then x :: r else if ordM x m = 1 then m :: x :: r else x :: putG r m
theorem putG_cons (x : Mk) (r : List Mk) (m : Mk) : putG (x :: r) m = if ordM x m = 0 then x :: r else if ordM x m = 1 then m :: x :: r else x :: putG r m := rfl
/-- how many stand ahead of a mark -/
def placeG (l : List Mk) (m : Mk) : Nat := l.countP fun x => decide (ordM x m < 0)
theorem placeG_le (l : List Mk) (m : Mk) : placeG l m ≤ l.length := List.countP_le_length
theorem placeG_cons (x : Mk) (r : List Mk) (m : Mk) : placeG (x :: r) m = placeG r m + if ordM x m < 0 then 1 else 0 := by
  unfold placeG
  rw [List.countP_cons]
  simp
theorem hasG_cons (x : Mk) (r : List Mk) (m : Mk) : hasG (x :: r) m = (decide (ordM x m = 0) || hasG r m) := by simp [hasG]
theorem placeG_none {r : List Mk} {m : Mk} (h : ∀ b ∈ r, ordM b m = 1) : placeG r m = 0 ∧ hasG r m = false := by
  constructor
  · unfold placeG
    rw [List.countP_eq_zero]
    intro b hb
    have := h b hb
    simp; omega
  · unfold hasG
    rw [List.any_eq_false]
    intro b hb
    have := h b hb
    simp; omega
theorem putG_has : ∀ {l : List Mk} {m : Mk}, SortedG l → hasG l m = true → putG l m = l
  | [], m, _, h => by simp [hasG] at h
  | x :: r, m, hs, h => by
    rw [putG_cons]
    by_cases h0 : ordM x m = 0
    · rw [if_pos h0]
    · rw [if_neg h0]
      rw [hasG_cons, decide_eq_false h0, Bool.false_or] at h
      by_cases h1 : ordM x m = 1
      · have := (placeG_none (r := r) (m := m) (fun b hb => ordM_up (sortedG_head hs b hb) (by omega))).2
        rw [this] at h; cases h
      · rw [if_neg h1, putG_has (sortedG_tail hs) h]
theorem putG_new : ∀ {l : List Mk} {m : Mk}, SortedG l → hasG l m = false → putG l m = l.take (placeG l m) ++ m :: l.drop (placeG l m)
  | [], m, _, _ => by simp [putG]
  | x :: r, m, hs, h => by
    rw [hasG_cons, Bool.or_eq_false_iff] at h
    have h0 : ordM x m ≠ 0 := by simpa using h.1
    rw [placeG_cons, putG_cons, if_neg h0]
    by_cases h1 : ordM x m = 1
    · rw [if_pos h1, (placeG_none (r := r) (m := m) (fun b hb => ordM_up (sortedG_head hs b hb) (by omega))).1, if_neg (by omega)]; rfl
    · have h2 : ordM x m = -1 := by rcases ordM_range x m with h3 | h3 | h3 <;> omega
      rw [if_neg h1, if_pos (by omega), putG_new (sortedG_tail hs) h.2]; rfl
theorem putG_mem : ∀ {l : List Mk} {m b : Mk}, b ∈ putG l m → b = m ∨ b ∈ l
  | [], m, b, h => by simp [putG] at h; exact .inl h
  | x :: r, m, b, h => by
    rw [putG_cons] at h
    split at h
    · exact .inr h
    · split at h
      · rcases List.mem_cons.1 h with rfl | h
        · exact .inl rfl
        · exact .inr h
      · rcases List.mem_cons.1 h with rfl | h
        · exact .inr (by simp)
        · rcases putG_mem h with h | h
          · exact .inl h
          · exact .inr (by simp [h])
theorem putG_sorted : ∀ {l : List Mk} {m : Mk}, SortedG l → SortedG (putG l m)
  | [], m, _ => trivial
  | x :: r, m, hs => by
    have hr := sortedG_head hs
    rw [putG_cons]
    by_cases h0 : ordM x m = 0
    · rw [if_pos h0]; exact hs
    · rw [if_neg h0]
      by_cases h1 : ordM x m = 1
      · rw [if_pos h1]
        refine sortedG_mk hs (fun b hb => ?_)
        rcases List.mem_cons.1 hb with rfl | hb
        · exact ordM_swap h1
        · exact ordM_trans (ordM_swap h1) (hr b hb)
      · rw [if_neg h1]
        refine sortedG_mk (putG_sorted (sortedG_tail hs)) (fun b hb => ?_)
        rcases putG_mem hb with rfl | hb
        · rcases ordM_range x b with h3 | h3 | h3 <;> omega
        · exact hr b hb
theorem putG_hasG : ∀ (l : List Mk) (m x : Mk), hasG (putG l m) x = (hasG l x || decide (ordM m x = 0))
  | [], m, x => by simp [putG, hasG]
  | y :: r, m, x => by
    rw [putG_cons]
    split
    · rename_i h0
      rw [ordM_zero] at h0
      subst h0
      rw [hasG_cons]
      cases decide (ordM y x = 0) <;> simp
    · split
      · rw [hasG_cons, Bool.or_comm]
      · rw [hasG_cons, hasG_cons, putG_hasG r m x, Bool.or_assoc]
theorem putG_len : ∀ (l : List Mk) (m : Mk), (putG l m).length ≤ l.length + 1
  | [], m => by simp [putG]
  | x :: r, m => by
    rw [putG_cons]
    split
    · simp
    · split
      · simp
      · have := putG_len r m
        simp; omega
theorem putG_len_le : ∀ (l : List Mk) (m : Mk), l.length ≤ (putG l m).length
  | [], m => by simp [putG]
  | x :: r, m => by
    rw [putG_cons]
    split
    · simp
    · split
      · simp
      · have := putG_len_le r m
        simp; omega
def putGs (l : List Mk) (ms : List Mk) : List Mk := ms.foldl putG l
theorem putGs_take {l ms : List Mk} {k : Nat} {m : Mk} (h : ms[k]? = some m) : putGs l (ms.take (k + 1)) = putG (putGs l (ms.take k)) m := by
  obtain ⟨h1, h2⟩ := List.getElem?_eq_some_iff.1 h
  unfold putGs
  rw [List.take_succ_eq_append_getElem h1, h2, List.foldl_append]; rfl
theorem putGs_sorted : ∀ {ms l : List Mk}, SortedG l → SortedG (putGs l ms)
  | [], l, h => h
  | m :: ms, l, h => putGs_sorted (ms := ms) (putG_sorted h)
theorem putGs_len : ∀ (ms l : List Mk), (putGs l ms).length ≤ l.length + ms.length
  | [], l => by simp [putGs]
  | m :: ms, l => by
    have h1 := putGs_len ms (putG l m)
    have h2 := putG_len l m
    have e : putGs l (m :: ms) = putGs (putG l m) ms := rfl
    rw [e, List.length_cons]; omega
/-- the document's loop: behind k marks it holds out, and knows whether m has been put; none of those behind is m -/
def DocG (l : List Mk) (m : Mk) (k : Nat) (out : List Mk) (put : Bool) : Prop :=
  out ++ (if put = true then l.drop k else putG (l.drop k) m) = putG l m ∧ out.length ≤ k + 1 ∧ (put = false → out.length ≤ k)
theorem docG_start (l : List Mk) (m : Mk) : DocG l m 0 [] false := ⟨by simp, by simp, by simp⟩
theorem docG_new {l : List Mk} {m x : Mk} {k : Nat} {out : List Mk} (h : DocG l m k out false) (hx : l[k]? = some x) (h1 : ordM x m = 1) : DocG l m (k + 1) (out ++ [m] ++ [x]) true := by
  obtain ⟨e, hl, hl2⟩ := h
  rw [drop_at hx] at e
  refine ⟨?_, ?_, by simp⟩
  · simp only [if_true]
    rw [if_neg (by simp), putG_cons, if_neg (by omega), if_pos h1] at e
    rw [← e]; simp
  · have := hl2 rfl
    simp; omega
theorem docG_less {l : List Mk} {m x : Mk} {k : Nat} {out : List Mk} (h : DocG l m k out false) (hx : l[k]? = some x) (h0 : ¬ ordM x m = 0) (h1 : ¬ ordM x m = 1) : DocG l m (k + 1) (out ++ [x]) false := by
  obtain ⟨e, hl, hl2⟩ := h
  rw [drop_at hx] at e
  refine ⟨?_, ?_, ?_⟩
  · rw [if_neg (by simp)] at e ⊢
    rw [putG_cons, if_neg h0, if_neg h1] at e
    rw [← e]; simp
  · have := hl2 rfl
    simp; omega
  · intro _; have := hl2 rfl
    simp; omega
theorem docG_put {l : List Mk} {m x : Mk} {k : Nat} {out : List Mk} (h : DocG l m k out true) (hx : l[k]? = some x) : DocG l m (k + 1) (out ++ [x]) true := by
  obtain ⟨e, hl, _⟩ := h
  rw [drop_at hx] at e
  refine ⟨?_, by simp; omega, by simp⟩
  simp only [if_true] at e ⊢
  rw [← e]; simp
theorem docG_end {l : List Mk} {m : Mk} {out : List Mk} {put : Bool} (h : DocG l m l.length out put) : (if put = true then out else out ++ [m]) = putG l m := by
  obtain ⟨e, _⟩ := h
  rw [List.drop_length] at e
  cases put
  · simpa [putG] using e
  · simpa using e
theorem hasG_no {l : List Mk} {m x : Mk} {k : Nat} (h : hasG l m = false) (hx : l[k]? = some x) : ¬ ordM x m = 0 := by
  have := List.any_eq_false.1 h x (List.mem_of_getElem? hx)
  simpa using this

/-- one atom more, unless it is gone -/
def putN (g : List Mk) (l : List At) (a : At) : List At := if hasG g a.1 = true then l else putA l a
def putNs (g : List Mk) (l m : List At) : List At := m.foldl (putN g) l
theorem putNs_take {g : List Mk} {l m : List At} {k : Nat} {a : At} (h : m[k]? = some a) : putNs g l (m.take (k + 1)) = putN g (putNs g l (m.take k)) a := by
  obtain ⟨h1, h2⟩ := List.getElem?_eq_some_iff.1 h
  unfold putNs
  rw [List.take_succ_eq_append_getElem h1, h2, List.foldl_append]; rfl
theorem putNs_merge (g : List Mk) : ∀ (m l : List At), putNs g l m = mergeA l (m.filter fun a => !hasG g a.1)
  | [], l => rfl
  | a :: m, l => by
    have e : putNs g l (a :: m) = putNs g (putN g l a) m := rfl
    rw [e, putNs_merge g m, List.filter_cons]
    unfold putN
    cases hasG g a.1 <;> simp [mergeA]
theorem putNs_right {g : List Mk} {m l : List At} (h : RightA l) (hm : ∀ a ∈ m, checkM a.1 = 0 ∧ signB a.2 = true) : RightA (putNs g l m) := by
  rw [putNs_merge]
  exact mergeA_right h (fun a ha => hm a (List.mem_filter.1 ha).1)
theorem putNs_len (g : List Mk) (l m : List At) : (putNs g l m).length ≤ l.length + m.length := by
  rw [putNs_merge]
  exact Nat.le_trans (mergeA_len _ _) (Nat.add_le_add_left (List.length_filter_le _ _) _)
theorem takeA_right {l : List At} {ms : List Mk} (h : RightA l) : RightA (takeA l ms) := by
  obtain ⟨hs, ha⟩ := h
  refine ⟨?_, fun a hm => ha a (List.mem_filter.1 hm).1⟩
  clear ha
  induction l with
  | nil => trivial
  | cons x r ih =>
    unfold takeA
    rw [List.filter_cons]
    split
    · exact sortedA_mk (ih (sortedA_tail hs)) (fun b hb => sortedA_head hs b (List.mem_filter.1 hb).1)
    · exact ih (sortedA_tail hs)
/-- the marks that a deed names -/
def marksN (m : Mk) (n : Nat) : List Mk := (List.range n).map fun (i : Nat) => afterM m (i : Int)
def marksD (d : De) : List Mk := if d.kind = 1 then marksN d.run.1 d.run.2.length else marksN d.mark d.many.toNat
theorem marksN_len (m : Mk) (n : Nat) : (marksN m n).length = n := by simp [marksN]
theorem marksN_at {m : Mk} {n k : Nat} (h : k < n) : (marksN m n)[k]? = some (afterM m (k : Int)) := by simp [marksN, h]
theorem takeA_one (l : List At) (ms : List Mk) (m : Mk) : takeA l (ms ++ [m]) = takeA (takeA l ms) [m] := by
  unfold takeA
  rw [List.filter_filter]
  apply List.filter_congr
  intro a _
  simp [hasG, Bool.and_comm]
theorem takeA_nil (l : List At) : takeA l [] = l := by simp [takeA, hasG]
/-- a deed that is right, done -/
def doDeed (s : St) (d : De) : St := if d.kind = 1 then (putNs s.2 s.1 (atomsR d.run), s.2) else (takeA s.1 (marksD d), putGs s.2 (marksD d))
/-- too much -/
def tooMuch (s : St) : Bool := decide (300 < s.1.length) || decide (600 < s.2.length)
def doDs : St → List De → Option St
  | s, [] => some s
  | s, d :: r => if tooMuch (doDeed s d) = true then none else doDs (doDeed s d) r
end Go.Proofs.Ytiladkinndgeaaa
/- The same atoms. -/
namespace Go.Proofs.Ytiladkinndgeaaa
open Go Go.RowKit Go.BigFrame Cp

theorem same_same {F G : Nat → Prop} {w : World} {cs ds : List Value} {a : Mk} (ha : RMk F w cs a) (hb : RMk G w ds a) : Calls Try.prog 75 #[.agg cs.toArray, .agg ds.toArray] w fun e w' => e = .returned (.bool true) ∧ Ext w w' := by
  have h1 := same_any ha hb
  rw [ordM_self] at h1
  exact h1
end Go.Proofs.Ytiladkinndgeaaa
/- A region that draws its order, whose operations read and whose last ones write: the reads by the cheap step. -/
namespace Cp
open Go Go.RowKit

theorem still_of_one {P : Program} {o : Oper} {a : Act} {w : World} {K : Act → Prop} (h : o.quiet P a (fun W => W = w) K) : o.still P a w K := by
  obtain ⟨v, h1, h2⟩ := h
  have h3 := h1 w rfl
  unfold Oper.quietAt at h3
  unfold Oper.still
  generalize (execOp a.eval o).run P w = r at h3 ⊢
  cases r with
  | halt x w' => exact h3.elim
  | ok n w' =>
    cases n with
    | value u => exact ⟨h3.1, by rw [h3.2]; exact h2⟩
    | skip => exact ⟨h3.1, by rw [← h3.2]; exact h2⟩
    | enter f args => exact ⟨h3.1, v, h3.2, h2⟩
    | _ => exact h3.elim
theorem still_of_quiet {P : Program} {ops : Array Oper} {w : World} {Q : Act → Prop} : ∀ {l : List Oper} {a : Act}, wpQuiet P ops (fun W => W = w) Q l a → wpStill P ops w Q l a
  | [], _, h => h
  | o :: l, a, h => by
    unfold wpQuiet at h
    unfold wpStill
    by_cases hw : Region.wanted o (yielded ops a.tmps) = true
    · rw [if_pos hw] at h ⊢
      obtain ⟨v, h1, h2⟩ := h
      exact still_of_one ⟨v, h1, still_of_quiet h2⟩
    · rw [if_neg hw] at h ⊢
      exact still_of_quiet h
/-- reads (and calls that leave the world alone) ahead of a forced tail -/
theorem wp_region_tail {P : Program} {id : Nat} {Q : Exit → Act → World → Prop} {a : Act} {w : World} {l : List Oper} (n : Nat) (hm : P.follows .mixedOrders = true) (hB : Region.lexTailB .any l.toArray n = true)
    (h : ∀ W, W = w.drew → wpQuiet P l.toArray (fun W' => W' = W) (fun a' => wpList P l.toArray Q (l.drop n) a' W) (l.take n) a) : (Code.region id l.toArray true).wp P Q a w :=
  still_tail n hm hB (still_of_quiet (h _ rfl))
end Cp
/- The place of a mark among marks in order; what is gone of a state that is worked on. -/
namespace Go.Proofs.Ytiladkinndgeaaa
open Go Go.RowKit Go.BigFrame Cp

theorem sortedG_lt : ∀ {l : List Mk}, SortedG l → ∀ (j : Nat) (a b : Mk) (i : Nat), i < j → l[i]? = some a → l[j]? = some b → ordM a b = -1
  | [], _, j, a, b, i, _, h, _ => by simp at h
  | [x], _, j, a, b, i, hij, _, h => by
    cases j with
    | zero => omega
    | succ j => simp at h
  | x :: y :: r, hs, j, a, b, i, hij, h1, h2 => by
    obtain ⟨hxy, hr⟩ := hs
    cases j with
    | zero => omega
    | succ j =>
      cases i with
      | succ i => exact sortedG_lt hr j a b i (by omega) (by simpa using h1) (by simpa using h2)
      | zero =>
        have e : x = a := by simpa using h1
        subst e
        have h2' : (y :: r)[j]? = some b := by simpa using h2
        cases j with
        | zero => have e : y = b := by simpa using h2'
                  subst e; exact hxy
        | succ j => exact ordM_trans hxy (sortedG_lt hr (j + 1) y b 0 (by omega) rfl h2')
theorem placeG_is {l : List Mk} {m : Mk} {n : Nat} (hn : n ≤ l.length) (h1 : ∀ t a, l[t]? = some a → t < n → ordM a m < 0) (h2 : ∀ t a, l[t]? = some a → n ≤ t → ¬ ordM a m < 0) : placeG l m = n := by
  unfold placeG
  rw [← List.take_append_drop n l, List.countP_append]
  have e1 : (l.take n).countP (fun a => decide (ordM a m < 0)) = (l.take n).length := by
    rw [List.countP_eq_length]
    intro a ha
    obtain ⟨t, ht, e⟩ := List.mem_iff_getElem.1 ha
    have ht' : t < n := by rw [List.length_take] at ht; omega
    exact decide_eq_true (h1 t a (by rw [← List.getElem?_take_of_lt ht', List.getElem?_eq_getElem ht, e]) ht')
  have e2 : (l.drop n).countP (fun a => decide (ordM a m < 0)) = 0 := by
    rw [List.countP_eq_zero]
    intro a ha
    obtain ⟨t, ht, e⟩ := List.mem_iff_getElem.1 ha
    have := h2 (n + t) a (by rw [← List.getElem?_drop, List.getElem?_eq_getElem ht, e]) (by omega)
    simpa using this
  rw [e1, e2, List.length_take]; omega
/-- how far a search between two places has come -/
def HalvesG (l : List Mk) (m : Mk) (i j : Nat) : Prop := i ≤ j ∧ j ≤ l.length ∧ (∀ t a, l[t]? = some a → t < i → ordM a m < 0) ∧ ∀ t a, l[t]? = some a → j ≤ t → ¬ ordM a m < 0
theorem halvesG_start (l : List Mk) (m : Mk) : HalvesG l m 0 l.length :=
  ⟨Nat.zero_le _, Nat.le_refl _, fun t a _ h => by omega, fun t a h ht => by rw [List.getElem?_eq_none ht] at h; cases h⟩
theorem halvesG_low {l : List Mk} {m : Mk} {i j h : Nat} {a : Mk} (hs : SortedG l) (hh : HalvesG l m i j) (h1 : h < j) (e : l[h]? = some a) (ho : ordM a m < 0) : HalvesG l m (h + 1) j := by
  refine ⟨by omega, hh.2.1, fun t b hb ht => ?_, hh.2.2.2⟩
  by_cases h2 : t = h
  · subst h2
    have : a = b := by rw [e] at hb; simpa using hb
    subst this; exact ho
  · exact ordM_lt.2 (ordM_trans (sortedG_lt hs h b a t (by omega) hb e) (ordM_lt.1 ho))
theorem halvesG_high {l : List Mk} {m : Mk} {i j h : Nat} {a : Mk} (hs : SortedG l) (hh : HalvesG l m i j) (h0 : i ≤ h) (h1 : h < j) (e : l[h]? = some a) (ho : ¬ ordM a m < 0) : HalvesG l m i h := by
  refine ⟨h0, by have := hh.2.1; omega, hh.2.2.1, fun t b hb ht hlt => ?_⟩
  by_cases h2 : t = h
  · subst h2
    have : a = b := by rw [e] at hb; simpa using hb
    subst this; exact ho hlt
  · exact ho (ordM_lt.2 (ordM_trans (sortedG_lt hs t a b h (by omega) e hb) (ordM_lt.1 hlt)))
theorem halvesG_end {l : List Mk} {m : Mk} {i : Nat} (hh : HalvesG l m i i) : placeG l m = i := placeG_is hh.2.1 hh.2.2.1 hh.2.2.2
theorem hasG_far {l : List Mk} {m : Mk} {i : Nat} (hh : HalvesG l m i i) (h : l.length ≤ i) : hasG l m = false := by
  unfold hasG
  rw [List.any_eq_false]
  intro a ha
  obtain ⟨t, ht, e⟩ := List.mem_iff_getElem.1 ha
  have := hh.2.2.1 t a (by rw [List.getElem?_eq_getElem ht, e]) (by omega)
  simp; omega
theorem hasG_near {l : List Mk} {m : Mk} {i : Nat} {a : Mk} (hs : SortedG l) (hh : HalvesG l m i i) (e : l[i]? = some a) : hasG l m = (ordM a m == 0) := by
  cases h : (ordM a m == 0) with
  | true =>
    unfold hasG
    rw [List.any_eq_true]
    exact ⟨a, List.mem_of_getElem? e, by simpa using h⟩
  | false =>
    unfold hasG
    rw [List.any_eq_false]
    intro b hb
    obtain ⟨t, ht, e2⟩ := List.mem_iff_getElem.1 hb
    have e3 : l[t]? = some b := by rw [List.getElem?_eq_getElem ht, e2]
    have h0 : ¬ ordM a m = 0 := by simpa using h
    have hr := ordM_range a m
    have h1 := hh.2.2.2 i a e (Nat.le_refl _)
    simp only [decide_eq_true_eq]
    intro hz
    have hbm := ordM_zero.1 hz
    rcases Nat.lt_trichotomy t i with hlt | rfl | hgt
    · have := hh.2.2.1 t b e3 hlt; omega
    · rw [e] at e3
      have : a = b := by simpa using e3
      subst this; exact h0 hz
    · have := sortedG_lt hs t a b i hgt e e3
      rw [hbm] at this; omega

end Go.Proofs.Ytiladkinndgeaaa
/- What is wrong with a state, by the program. -/
namespace Go.Proofs.Ytiladkinndgeaaa
open Go Go.RowKit Go.BigFrame Cp

end Go.Proofs.Ytiladkinndgeaaa
/- Places in a text. -/
namespace Go.Proofs.Ytiladkinndgeaaa
open Go Go.RowKit Cp

/-- what is wrong with a plain text -/
def textE (s : Tx) : Int := if 300 < s.length then 2 else if signsB s = false then 3 else 0
end Go.Proofs.Ytiladkinndgeaaa
