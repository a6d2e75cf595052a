/- Small laws that all walks share. -/
import Derived.WalkKit
import Derived.WalkSpells
import Derived.WalkLawsBesides
import Derived.Lib.Hide
import Derived.Deep.RegionHeld3
import Derived.StillTailTactics
import Derived.Deep.QuietTactic
import Derived.BigQuiet
import Derived.Deep.Draws
import Derived.Deep.RegionWith
import Derived.Test.YtiladkinndgeaaaQ6d6b76f88d
import Derived.Test.YtiladkinndgeaaaRows
set_option linter.unusedVariables false
set_option linter.unusedSimpArgs false
namespace Cp
open Go Go.RowKit

/-- nothing that lay in a has changed in w -/
def Ext (a w : World) : Prop := Below a.heap.size a w
theorem ext_refl (w : World) : Ext w w := Below.refl _ _
theorem ext_trans {a b c : World} (h : Ext a b) (k : Ext b c) : Ext a c := Below.trans h (Below.mono k h.size)
theorem ext_call {a b c : World} (h : Ext a b) (k : Ext b c) : Ext a c := ext_trans h k
theorem ext_drew {a w : World} (h : Ext a w) : Ext a w.drew := Below.drew h
theorem ext_drewN {a w : World} (h : Ext a w) (n : Nat) : Ext a (w.drewN n) := by
  have h' : Below a.heap.size a w := h
  exact ⟨h'.os, h'.tape, h'.output, h'.size, h'.block⟩
theorem ext_alloc {a w : World} (h : Ext a w) (o : Obj) : Ext a (w.alloc o) := Below.alloc h h.size o
theorem ext_set {a w : World} (h : Ext a w) {p : Addr} (hp : a.heap.size ≤ p.block) (u : Value) : Ext a (w.setCell p u) := Below.setCell h hp u
theorem ext_grown {a w w' : World} {row : Option Nat} (h : Ext a w) (hg : w.grownBy w' row) (hr : ∀ k, row = some k → a.heap.size ≤ k) : Ext a w' := Below.grown h hg h.size hr
theorem Ext.size {a w : World} (h : Ext a w) : a.heap.size ≤ w.heap.size := Below.size h
theorem Ext.cells {a w : World} (h : Ext a w) : ∀ b o, b < a.heap.size → w.cell? ⟨b, o, none⟩ = a.cell? ⟨b, o, none⟩ := fun _ o hb => Below.cell (p := ⟨_, o, none⟩) h hb
theorem Ext.frz {a w : World} (h : Ext a w) : ∀ b o, b < a.heap.size → w.frozen? ⟨b, o, none⟩ = a.frozen? ⟨b, o, none⟩ := fun _ o hb => Below.frozen (p := ⟨_, o, none⟩) h hb
theorem Ext.below {a w : World} (h : Ext a w) : Below a.heap.size a w := h
theorem Ext.range {a w : World} (h : Ext a w) {b o : Nat} {cs : List Value} (hb : b < a.heap.size) (hc : a.rangeAt b o cs) : w.rangeAt b o cs := rangeAt_block hc (Below.block h b hb)
theorem Good.ext {α : Type} {R : Rd α} (g : Good R) {F w w' cs x} (h : R F w cs x) (hb : Ext w w') : R F w' cs x := g.keep (.of_below hb) h
theorem RSl.ext {α : Type} {R : Rd α} (g : Good R) {sz F w w' v} {l : List α} (h : RSl R sz F w v l) (hb : Ext w w') : RSl R sz F w' v l := h.keep g (.of_below hb)

theorem keeps_set {F : Nat → Prop} {a w : World} (h : Keeps F a w) {p : Addr} (hp : p.block < a.heap.size → ¬ F p.block) (u : Value) : Keeps F a (w.setCell p u) :=
  ⟨by simpa [World.setCell] using h.size, fun k hk hl => (Below.heap_setCell w p u k (fun e => by subst e; exact hp hl hk)).trans (h.block k hk hl)⟩
theorem keeps_alloc {F : Nat → Prop} {a w : World} (h : Keeps F a w) (o : Obj) : Keeps F a (w.alloc o) :=
  ⟨Nat.le_trans h.size (by simp), fun k hk hl => (Below.heap_alloc w o k (Nat.lt_of_lt_of_le hl h.size)).trans (h.block k hk hl)⟩
theorem keeps_drew {F : Nat → Prop} {a w : World} (h : Keeps F a w) : Keeps F a w.drew := ⟨h.size, h.block⟩
theorem keeps_ext {F : Nat → Prop} {a w w' : World} (h : Keeps F a w) (k : Ext w w') : Keeps F a w' := h.trans (.of_below k)
theorem keeps_refl {F : Nat → Prop} {a : World} : Keeps F a a := .refl _ _
theorem rangeAt1 {w : World} {b o : Nat} {x : Value} (h0 : w.cell? ⟨b, o, none⟩ = some x) : w.rangeAt b o [x] := by
  intro j v hv
  match j, hv with
  | 0, hv => have : x = v := by simpa using hv
             subst this; exact h0
theorem rangeAt2 {w : World} {b o : Nat} {x y : Value} (h0 : w.cell? ⟨b, o, none⟩ = some x) (h1 : w.cell? ⟨b, o + 1, none⟩ = some y) : w.rangeAt b o [x, y] := by
  intro j v hv
  match j, hv with
  | 0, hv => have : x = v := by simpa using hv
             subst this; exact h0
  | 1, hv => have : y = v := by simpa using hv
             subst this; exact h1
theorem ri {k : IntKind} {a b : Int} (h : a = b) : Ending.returned (.int k a) = .returned (.int k b) := by rw [h]
theorem rb {a b : Bool} (h : a = b) : Ending.returned (.bool a) = .returned (.bool b) := by rw [h]

/-- a step of a path, where it lies -/
theorem stp_at {F w a n cap} {l : List Stp} (h : RSl RStp 2 F w (.slice a n cap) l) {i : Nat} (hi : i < n) :
    ∃ b o x y, a = some ⟨b, o, none⟩ ∧ b < w.heap.size ∧ l[i]? = some (x, y) ∧ I64 x ∧ I64 y ∧ w.cell? ⟨b, o + i * 2, none⟩ = some (.int .i64 x) ∧ w.cell? ⟨b, o + i * 2 + 1, none⟩ = some (.int .i64 y) := by
  obtain ⟨b, o, x, cs, e1, e2, e3, _, e4, ⟨rfl, i1, i2⟩⟩ := h.at_ hi
  exact ⟨b, o, x.1, x.2, e1, e2, e3, i1, i2, by simpa using e4 0 _ rfl, by simpa [Nat.add_assoc] using e4 1 _ rfl⟩
/-- the tactic for Ext, said once: it runs where extA stands -/
theorem extA {a w : World} (h : Ext a w := by repeat (first | (with_reducible exact Cp.ext_refl _) | (with_reducible assumption) | (with_reducible refine Cp.ext_drew ?_) | (with_reducible refine Cp.ext_drewN ?_ _) | (with_reducible refine Cp.ext_alloc ?_ _) | (with_reducible refine Cp.ext_set ?_ (by first | omega | (simp <;> omega)) _) | (with_reducible refine Cp.ext_trans ?_ (by with_reducible assumption)))) : Ext a w := h
end Cp
/- The smallest functions: numbers alone. -/
namespace Go.Proofs.Ytiladkinndgeaaa
open Go Go.RowKit Cp

theorem fol : Try.prog.follows .mixedOrders = true := by kernel_rfl
/-- 'from .. to' as a bool -/
def inB (n a b : Int) : Bool := decide (a ≤ n) && decide (n ≤ b)
theorem inB_no {n a b : Int} (h : n < a) : false = inB n a b := by unfold inB; rw [decide_eq_false (by omega)]; rfl
theorem inB_yes {n a b : Int} (h : a ≤ n) : decide (n ≤ b) = inB n a b := by unfold inB; rw [decide_eq_true h]; rfl
theorem cmpI_no {a b : Int} (h : b ≤ a) (k : a ≤ b) : 0 = cmpI a b := by unfold cmpI; rw [if_neg (by omega), if_neg (by omega)]
theorem cmpI_gt {a b : Int} (h : b < a) : 1 = cmpI a b := by unfold cmpI; rw [if_neg (by omega), if_pos h]
theorem cmpI_less {a b : Int} (h : a < b) : -1 = cmpI a b := by unfold cmpI; rw [if_pos h]

theorem within_any (n a b : Int) (w : World) : Calls Try.prog 58 #[.int .i64 n, .int .i64 a, .int .i64 b] w fun e w' => e = .returned (.bool (inB n a b)) ∧ w = w' := by
  go_enter Try.func58, Try.ntmps58
  go_wp2
  all_goals go_ret
  all_goals first | exact ⟨rb (inB_yes ‹_›), rfl⟩ | exact ⟨rb (inB_no ‹_›), rfl⟩
theorem number_any (a b : Int) (w : World) : Calls Try.prog 84 #[.int .i64 a, .int .i64 b] w fun e w' => e = .returned (.int .i64 (cmpI a b)) ∧ w = w' := by
  go_enter Try.func84, Try.ntmps84
  go_wp2
  all_goals go_ret
  all_goals first | exact ⟨ri (cmpI_less ‹_›), rfl⟩ | exact ⟨ri (cmpI_gt ‹_›), rfl⟩ | exact ⟨ri (cmpI_no ‹_› ‹_›), rfl⟩
theorem site_any (n : Int) (w : World) : Calls Try.prog 39 #[.int .i64 n] w fun e w' => e = .returned (.bool (inB n 0 4)) ∧ w = w' := by
  go_enter Try.func39, Try.ntmps39
  go_wp2_with (go_at_call 58; refine (within_any _ _ _ _).mono ?_; rintro e w' ⟨rfl, rfl⟩)
  go_ret
  exact ⟨rfl, rfl⟩
end Go.Proofs.Ytiladkinndgeaaa
/- Signs of a text. -/
namespace Go.Proofs.Ytiladkinndgeaaa
open Go Go.RowKit Cp

theorem sgn_in (c : UInt8) : signB c = inB (c.toNat : Int) 32 126 := rfl
theorem byte_lt (c : UInt8) : (c.toNat : Int) < 256 := by have := c.toNat_lt; omega
theorem sign_any (c : UInt8) (w : World) : Calls Try.prog 80 #[.int .u8 (c.toNat : Int)] w fun e w' => e = .returned (.bool (signB c)) ∧ w = w' := by
  rw [sgn_in]
  have h256 := byte_lt c
  generalize (c.toNat : Int) = n at *
  go_enter Try.func80, Try.ntmps80
  go_wp2
  all_goals go_ret
  all_goals first | exact ⟨rb (inB_yes ‹_›), rfl⟩ | exact ⟨rb (inB_no ‹_›), rfl⟩
theorem signsB_take {s : ByteArray} {k : Nat} (hk : k < s.size) (h : signsB (s.data.toList.take k) = true) (h2 : signB s[k] = true) : signsB (s.data.toList.take (k + 1)) = true := by
  rw [List.take_succ_eq_append_getElem (by simpa using hk)]
  unfold signsB at *
  rw [List.all_append, h]
  simp only [Bool.true_and, List.all_cons, List.all_nil, Bool.and_true]
  exact h2
theorem signsB_bad {s : ByteArray} {k : Nat} (hk : k < s.size) (h2 : signB s[k] = false) : false = signsB s.data.toList := by
  symm
  unfold signsB
  rw [List.all_eq_false]
  exact ⟨s[k], by rw [List.mem_iff_getElem]; exact ⟨k, by simpa using hk, rfl⟩, by simp [h2]⟩
theorem signsB_end {s : ByteArray} {k : Nat} (hk : s.size ≤ k) (h : signsB (s.data.toList.take k) = true) : true = signsB s.data.toList := by
  rw [List.take_of_length_le (by simpa using hk)] at h
  exact h.symm

theorem signs_any (s : ByteArray) (w : World) (hs : s.size ≤ maxLen) : Calls Try.prog 71 #[.string s] w fun e w' => e = .returned (.bool (signsB s.data.toList)) ∧ w = w' := by
  unfold maxLen at hs
  go_enter Try.func71, Try.ntmps71
  go_wp2
  go_loop [6] (fun i => ∃ k : Nat, k ≤ s.size ∧ i = .int .i64 k ∧ Hid (signsB (s.data.toList.take k) = true)) (fun i => s.size - (intOf i).toNat)
  case atStart => exact ⟨0, Nat.zero_le _, rfl, rfl⟩
  case round =>
    obtain ⟨k, hk, rfl, h⟩ := hrel
    by_cases hlt : k < s.size
    · cases g : signB s[k] with
      | true =>
        go_wp2_with (go_at_call 80; ((with_reducible refine (sign_any _ _).mono ?_); rintro e w' ⟨rfl, rfl⟩))
        go_round
        case rel => exact ⟨k + 1, by omega, by go_num, signsB_take hlt h.out g⟩
        case measure => simp [intOf]; omega
      | false =>
        go_wp2_with (go_at_call 80; ((with_reducible refine (sign_any _ _).mono ?_); rintro e w' ⟨rfl, rfl⟩))
        go_ret
        exact ⟨rb (signsB_bad hlt g), rfl⟩
    · go_wp2
      go_ret
      exact ⟨rb (signsB_end (by omega) h.out), rfl⟩
end Go.Proofs.Ytiladkinndgeaaa
/- cmp.Or at two numbers; the order of two steps. -/
namespace Go.Proofs.Ytiladkinndgeaaa
open Go Go.RowKit Cp

theorem ordP_drop_end {l m : List Stp} {k : Nat} (hk : k = l.length) (hm : k ≤ m.length) : ordP (l.drop k) (m.drop k) = if l.length < m.length then -1 else 0 := by
  subst hk
  rw [List.drop_eq_nil_of_le (Nat.le_refl _)]
  split
  · rename_i h
    rw [List.drop_eq_getElem_cons h]; rfl
  · rw [List.drop_eq_nil_of_le (by omega)]; rfl
theorem ordP_drop_gt {l m : List Stp} {k : Nat} (hk : k < l.length) (hm : m.length ≤ k) : ordP (l.drop k) (m.drop k) = 1 := by
  rw [List.drop_eq_getElem_cons hk, List.drop_eq_nil_of_le hm]; rfl
theorem ordP_drop_step {l m : List Stp} {k : Nat} {s t : Stp} (h1 : l[k]? = some s) (h2 : m[k]? = some t) :
    ordP (l.drop k) (m.drop k) = if ordS s t = 0 then ordP (l.drop (k + 1)) (m.drop (k + 1)) else ordS s t := by
  obtain ⟨a1, b1⟩ := List.getElem?_eq_some_iff.1 h1
  obtain ⟨a2, b2⟩ := List.getElem?_eq_some_iff.1 h2
  rw [List.drop_eq_getElem_cons a1, List.drop_eq_getElem_cons a2, b1, b2]; rfl

end Go.Proofs.Ytiladkinndgeaaa
/- The order of two marks. -/
namespace Go.Proofs.Ytiladkinndgeaaa
open Go Go.RowKit Cp

end Go.Proofs.Ytiladkinndgeaaa
/- The reference's order of two marks. -/
namespace Go.Proofs.Ytiladkinndgeaaa
open Go Go.RowKit Cp

theorem quiet_add_same {P : Program} {f : FuncId} {args : Array Value} {w : World} {a n : Nat} {v : Value}
    (h : Calls P f args (w.drewN (a + n)) fun e w' => e = .returned v ∧ w' = w.drewN (a + n)) :
    Calls P f args (w.drewN (a + n)) fun e w'' => e = .returned v ∧ ∃ m, w'' = w.drewN (a + m) :=
  h.mono fun _ _ ⟨he, hm⟩ => ⟨he, n, hm⟩
theorem number_s (a b : Int) (w : World) : Calls Try.prog 84 #[.int .i64 a, .int .i64 b] w fun e w' => e = .returned (.int .i64 (cmpI a b)) ∧ w' = w :=
  (number_any a b w).mono fun _ _ h => ⟨h.1, h.2.symm⟩
theorem ordP_end {l m : List Stp} {k : Nat} (h1 : k ≤ l.length) (h2 : k ≤ m.length) (h3 : ¬ (k < l.length ∧ k < m.length)) : ordP (l.drop k) (m.drop k) = cmpI (l.length : Int) (m.length : Int) := by
  by_cases h : k < l.length
  · rw [ordP_drop_gt h (by omega)]; unfold cmpI; rw [if_neg (by omega), if_pos (by omega)]
  · rw [ordP_drop_end (by omega) h2]
    split
    · unfold cmpI; rw [if_pos (by omega)]
    · unfold cmpI; rw [if_neg (by omega), if_neg (by omega)]
theorem ordM_fin {l m : List Stp} {c d : Int} {k : Nat} (ho : ordP l m = ordP (l.drop k) (m.drop k)) (h1 : k ≤ l.length) (h2 : k ≤ m.length) (h3 : ¬ (k < l.length ∧ k < m.length)) :
    ordM (l, c) (m, d) = if cmpI (l.length : Int) (m.length : Int) = 0 then cmpI c d else cmpI (l.length : Int) (m.length : Int) := by
  unfold ordM; simp only; rw [ho, ordP_end h1 h2 h3]
theorem ordM_ne {l m : List Stp} {c d x : Int} {k : Nat} (ho : ordP l m = ordP (l.drop k) (m.drop k)) (hs : ordP (l.drop k) (m.drop k) = x) (hx : x ≠ 0) : ordM (l, c) (m, d) = x := by
  unfold ordM; simp only; rw [ho, hs, if_neg hx]

set_option maxRecDepth 100000 in
set_option maxHeartbeats 800000 in
theorem orderOf_any {F G : Nat → Prop} {w : World} {cs ds : List Value} {a b : Mk} (ha : RMk F w cs a) (hb : RMk G w ds b) :
    Calls Try.prog 82 #[.agg cs.toArray, .agg ds.toArray] w fun e w' => e = .returned (.int .i64 (ordM a b)) ∧ Ext w w' := by
  obtain ⟨v, rfl, hl, _⟩ := ha
  obtain ⟨u, rfl, hm, _⟩ := hb
  obtain ⟨l, c⟩ := a
  obtain ⟨m, d⟩ := b
  simp only at hl hm ⊢
  obtain ⟨a1, n1, c1, rfl⟩ := hl.slice
  obtain ⟨a2, n2, c2, rfl⟩ := hm.slice
  obtain ⟨rfl, k1, k1'⟩ := hl.len
  obtain ⟨rfl, k2, k2'⟩ := hm.len
  unfold maxLen at k1' k2'
  have q1 : l.length ≤ 9223372036854775807 := by omega
  have q2 : m.length ≤ 9223372036854775807 := by omega
  clear k1 k1' k2 k2'
  have HL := Lib.hid hl
  have HM := Lib.hid hm
  clear hl hm
  go_enter Try.func82, Try.ntmps82
  go_wp2
  go_loopw [5] (fun i wr => ∃ k : Nat, k ≤ l.length ∧ k ≤ m.length ∧ i = .int .i64 k ∧ Hid (ordP l m = ordP (l.drop k) (m.drop k)) ∧ Ext ((w.alloc (.cells #[.slice a1 l.length c1, .int .i64 c] 56)).alloc (.cells #[.slice a2 m.length c2, .int .i64 d] 56)) wr) (fun i _ => l.length - (intOf i).toNat)
  case atStart => exact ⟨0, by omega, by omega, rfl, Lib.hid (by simp), ext_refl _⟩
  case round =>
    obtain ⟨k, hk1, hk2, rfl, ho, hx⟩ := hrel
    have hw : Ext w wr := ext_trans (ext_alloc (ext_alloc (ext_refl _) _) _) hx
    have z1 : wr.cell? ⟨w.heap.size, 0, none⟩ = some (.slice a1 l.length c1) := (hx.cells _ _ (by simp <;> omega)).trans (by go_simp)
    have z2 : wr.cell? ⟨w.heap.size, 1, none⟩ = some (.int .i64 c) := (hx.cells _ _ (by simp <;> omega)).trans (by go_simp)
    have z3 : wr.cell? ⟨w.heap.size + 1, 0, none⟩ = some (.slice a2 m.length c2) := (hx.cells _ _ (by simp <;> omega)).trans (by go_simp)
    have z4 : wr.cell? ⟨w.heap.size + 1, 1, none⟩ = some (.int .i64 d) := (hx.cells _ _ (by simp <;> omega)).trans (by go_simp)
    have HX := Lib.hid hx
    have HW := Lib.hid hw
    clear hx hw
    by_cases h12 : k < l.length ∧ k < m.length
    · obtain ⟨h1, h2⟩ := h12
      obtain ⟨b1, o1, x1, y1, rfl, hb1, e1, _, _, ca, cb⟩ := stp_at (HL.out.ext gStp HW.out) h1
      obtain ⟨b2, o2, x2, y2, rfl, hb2, e2, _, _, cc, cd⟩ := stp_at (HM.out.ext gStp HW.out) h2
      have HS := Lib.hid (ordP_drop_step e1 e2)
      clear e1 e2 hb1 hb2
      have hz : cmpI x1 x2 = 0 → ordS (x1, y1) (x2, y2) = cmpI y1 y2 := fun h => by unfold ordS; simp [h]
      have hn : cmpI x1 x2 ≠ 0 → ordS (x1, y1) (x2, y2) = cmpI x1 x2 := fun h => by unfold ordS; simp [h]
      by_cases h0 : cmpI x1 x2 = 0
      · have t1 : (cmpI x1 x2 == 0) = true := by rw [beq_iff_eq]; exact h0
        have HZ := Lib.hid (hz h0)
        clear hz hn h0
        by_cases h5 : cmpI y1 y2 = 0
        · have t2 : (cmpI y1 y2 != 0) = false := by rw [h5]; rfl
          have H5 := Lib.hid h5
          clear h5
          go_wp2
          go_quiet ((go_at_call 84; exact Calls.quiet_of_same (number_s _ _ _)))
          go_wp2
          go_quiet ((go_at_call 84; exact quiet_add_same (number_s _ _ _)))
          go_wp2
          go_roundw
          case rel => exact ⟨k + 1, by omega, by omega, by go_num, Lib.hid (by rw [ho.out, HS.out, HZ.out, if_pos H5.out]), ext_drewN HX.out _⟩
          case measure => simp [intOf]; omega
        · have t2 : (cmpI y1 y2 != 0) = true := by rw [bne_iff_ne]; exact h5
          have H5 := Lib.hid h5
          clear h5
          go_wp2
          go_quiet ((go_at_call 84; exact Calls.quiet_of_same (number_s _ _ _)))
          go_wp2
          go_quiet ((go_at_call 84; exact quiet_add_same (number_s _ _ _)))
          go_wp2
          go_ret
          exact ⟨ri (ordM_ne ho.out (HS.out.trans (by rw [HZ.out, if_neg H5.out])) H5.out).symm, ext_drewN HW.out _⟩
      · have t1 : (cmpI x1 x2 == 0) = false := by rw [beq_eq_false_iff_ne]; exact h0
        have t2 : (cmpI x1 x2 != 0) = true := by rw [bne_iff_ne]; exact h0
        have HZ := Lib.hid (hn h0)
        have H0 := Lib.hid h0
        clear h0 hz hn
        go_wp2
        go_quiet ((go_at_call 84; exact Calls.quiet_of_same (number_s _ _ _)))
        go_wp2
        go_ret
        exact ⟨ri (ordM_ne ho.out (HS.out.trans (by rw [HZ.out, if_neg H0.out])) H0.out).symm, ext_drewN HW.out _⟩
    · have HF := Lib.hid (ordM_fin (c := c) (d := d) ho.out hk1 hk2 h12)
      clear ho
      have key : ∀ (e : Ending) (w1 : World), e = .returned (.int .i64 (if cmpI (l.length : Int) (m.length : Int) = 0 then cmpI c d else cmpI (l.length : Int) (m.length : Int))) → w1 = wr → e = .returned (.int .i64 (ordM (l, c) (m, d))) ∧ Ext w w1 := fun e w1 h1 h2 => by
        subst h2
        exact ⟨by rw [h1, HF.out], HW.out⟩
      have KEY := Lib.hid key
      clear key
      have hfin : ∀ (x : Int), cmpI (l.length : Int) (m.length : Int) = x → True := fun _ _ => trivial
      clear hfin
      by_cases h5 : cmpI (l.length : Int) (m.length : Int) = 0
      · have t2 : (cmpI (l.length : Int) (m.length : Int) == 0) = true := by rw [beq_iff_eq]; exact h5
        have H5 := Lib.hid h5
        clear h5
        by_cases h1 : k < l.length
        · have h2 : ¬ k < m.length := fun h => h12 ⟨h1, h⟩
          clear h12
          go_wp2_with (go_at_call 84; refine (number_any _ _ _).mono ?_; rintro e w2 ⟨rfl, rfl⟩)
          go_ret
          exact KEY.out _ _ (ri (by rw [if_pos H5.out])) rfl
        · clear h12
          go_wp2_with (go_at_call 84; refine (number_any _ _ _).mono ?_; rintro e w2 ⟨rfl, rfl⟩)
          go_ret
          exact KEY.out _ _ (ri (by rw [if_pos H5.out])) rfl
      · have t2 : (cmpI (l.length : Int) (m.length : Int) == 0) = false := by rw [beq_eq_false_iff_ne]; exact h5
        have H5 := Lib.hid h5
        clear h5
        by_cases h1 : k < l.length
        · have h2 : ¬ k < m.length := fun h => h12 ⟨h1, h⟩
          clear h12
          go_wp2_with (go_at_call 84; refine (number_any _ _ _).mono ?_; rintro e w2 ⟨rfl, rfl⟩)
          go_ret
          exact KEY.out _ _ (ri (by rw [if_neg H5.out])) rfl
        · clear h12
          go_wp2_with (go_at_call 84; refine (number_any _ _ _).mono ?_; rintro e w2 ⟨rfl, rfl⟩)
          go_ret
          exact KEY.out _ _ (ri (by rw [if_neg H5.out])) rfl

theorem same_any {F G : Nat → Prop} {w : World} {cs ds : List Value} {a b : Mk} (ha : RMk F w cs a) (hb : RMk G w ds b) :
    Calls Try.prog 75 #[.agg cs.toArray, .agg ds.toArray] w fun e w' => e = .returned (.bool (ordM a b == 0)) ∧ Ext w w' := by
  have h := fun (W : World) (hx : Ext w W) => orderOf_any (gMk.ext ha hx) (gMk.ext hb hx)
  obtain ⟨v, rfl, _, _⟩ := ha
  obtain ⟨u, rfl, _, _⟩ := hb
  have H := Lib.hid h
  clear h
  go_enter Try.func75, Try.ntmps75
  go_wp2_with (go_at_call 82; refine (H.out _ (ext_alloc (ext_alloc (ext_refl _) _) _)).mono ?_; rintro e w1 ⟨rfl, hx1⟩)
  go_ret
  exact ⟨rfl, ext_call (ext_alloc (ext_alloc (ext_refl _) _) _) hx1⟩
end Go.Proofs.Ytiladkinndgeaaa
/- What is wrong with a mark. -/
namespace Go.Proofs.Ytiladkinndgeaaa
open Go Go.RowKit Cp

theorem badS_in (x y : Int) : badS (x, y) = (!inB x 0 200 || !inB y 0 4) := rfl
theorem lastDigit_at {l : List Stp} {x y : Int} (h : l[l.length - 1]? = some (x, y)) : lastDigit l = x := by
  unfold lastDigit
  rw [List.getLast?_eq_getElem?, h]; rfl
theorem checkM_many {l : List Stp} {c : Int} (h : 10 < l.length) : checkM (l, c) = 2 := by unfold checkM; rw [if_pos h]
theorem checkM_nil {l : List Stp} {c : Int} (h : l.length = 0) : checkM (l, c) = 1 := by
  have : l = [] := by simpa using h
  subst this; rfl
theorem checkM_bad {l : List Stp} {c : Int} (h1 : ¬ 10 < l.length) (h2 : l.length ≠ 0) (h : l.any badS = true) : checkM (l, c) = 3 := by
  unfold checkM; rw [if_neg h1, if_neg (fun e => h2 (by simp at e; simp [e])), if_pos h]
theorem checkM_end {l : List Stp} {c : Int} (h1 : ¬ 10 < l.length) (h2 : l.length ≠ 0) (h : l.any badS = false) : checkM (l, c) = if lastDigit l = 0 ∨ inB c 1 10000 = false then 3 else 0 := by
  unfold checkM
  rw [if_neg h1, if_neg (fun e => h2 (by simp at e; simp [e])), if_neg (by rw [h]; simp)]
  unfold inB
  simp only [Bool.and_eq_false_iff, decide_eq_false_iff_not]
  congr 1
  apply propext
  omega

theorem noneP_any {F : Nat → Prop} {w : World} {cs : List Value} {m : Mk} (h : RMk F w cs m) :
    Calls Try.prog 61 #[.agg cs.toArray] w fun e w' => e = .returned (.bool (noneM m)) ∧ Ext w w' := by
  obtain ⟨v, rfl, hl, _⟩ := h
  obtain ⟨l, c⟩ := m
  simp only at hl ⊢
  obtain ⟨a1, n1, c1, rfl⟩ := hl.slice
  obtain ⟨rfl, _, _⟩ := hl.len
  clear hl
  by_cases h0 : l.length = 0
  · have e1 : noneM (l, c) = (c == 0) := by
      have : l = [] := by simpa using h0
      subst this; unfold noneM; simp; rfl
    have t1 : ((l.length : Int) == 0) = true := by rw [beq_iff_eq]; omega
    rw [e1]
    clear e1 h0
    go_enter Try.func61, Try.ntmps61
    go_wp2
    go_ret
    exact ⟨rfl, ext_alloc (ext_refl _) _⟩
  · have e1 : noneM (l, c) = false := by
      unfold noneM; cases l with
      | nil => simp at h0
      | cons a r => rfl
    have t1 : ((l.length : Int) == 0) = false := by rw [beq_eq_false_iff_ne]; omega
    rw [e1]
    clear e1 h0
    go_enter Try.func61, Try.ntmps61
    go_wp2
    go_ret
    exact ⟨rfl, ext_alloc (ext_refl _) _⟩

end Go.Proofs.Ytiladkinndgeaaa
/- What is wrong with a mark, by the program. -/
namespace Go.Proofs.Ytiladkinndgeaaa
open Go Go.RowKit Cp

theorem badStep_any (x y : Int) (w : World) : Calls Try.prog 73 #[.agg #[.int .i64 x, .int .i64 y]] w fun e w' => e = .returned (.bool (badS (x, y))) ∧ Ext w w' := by
  rw [badS_in]
  cases g1 : inB x 0 200 with
  | false =>
    go_enter Try.func73, Try.ntmps73
    go_wp2_with (first | (go_at_call 58; refine (within_any _ _ _ _).mono ?_; rintro e w1 ⟨rfl, rfl⟩) | (go_at_call 39; refine (site_any _ _).mono ?_; rintro e w1 ⟨rfl, rfl⟩))
    go_ret
    exact ⟨rb (by simp), ext_alloc (ext_refl _) _⟩
  | true =>
    go_enter Try.func73, Try.ntmps73
    go_wp2_with (first | (go_at_call 58; refine (within_any _ _ _ _).mono ?_; rintro e w1 ⟨rfl, rfl⟩) | (go_at_call 39; refine (site_any _ _).mono ?_; rintro e w1 ⟨rfl, rfl⟩))
    go_ret
    exact ⟨rb (by simp), ext_alloc (ext_refl _) _⟩

/-- a place, or -1 -/
def IsIdx (b : Bool) (w : World) (e : Ending) (w' : World) : Prop := ∃ n : Int, decide (0 ≤ n) = b ∧ e = .returned (.int .i64 n) ∧ Ext w w'
theorem anyp_step {α : Type} {p : α → Bool} {l : List α} {k : Nat} {s : α} (h : l[k]? = some s) : (l.take (k + 1)).any p = ((l.take k).any p || p s) := by
  obtain ⟨a1, b1⟩ := List.getElem?_eq_some_iff.1 h
  rw [List.take_succ_eq_append_getElem a1, List.any_append, b1]; simp
theorem anyp_of_take {α : Type} {p : α → Bool} {l : List α} {k : Nat} (h : (l.take k).any p = true) : l.any p = true := by
  rw [← List.take_append_drop k l, List.any_append, h]; rfl

set_option maxRecDepth 100000 in
theorem idxStep_any {F : Nat → Prop} {w : World} {v : Value} {l : List Stp} (h : RSl RStp 2 F w v l) :
    Calls Try.prog 81 #[v, .func (.func 73) #[] #[]] w (IsIdx (l.any badS) w) := by
  obtain ⟨a1, n1, c1, rfl⟩ := h.slice
  obtain ⟨rfl, k1, k1'⟩ := h.len
  unfold maxLen at k1'
  have q1 : l.length ≤ 9223372036854775807 := by omega
  clear k1 k1'
  have HL := Lib.hid h
  clear h
  go_enter Try.func81, Try.ntmps81
  go_wp2
  go_loopw [8] (fun i wr => ∃ k : Nat, k ≤ l.length ∧ i = .int .i64 k ∧ Hid ((l.take k).any badS = false) ∧ Ext w wr) (fun i _ => l.length - (intOf i).toNat)
  case atStart => exact ⟨0, by omega, rfl, Lib.hid (by simp), ext_refl _⟩
  case round =>
    obtain ⟨k, hk1, rfl, ho, hx⟩ := hrel
    have HX := Lib.hid hx
    clear hx
    by_cases h1 : k < l.length
    · obtain ⟨b1, o1, x1, y1, rfl, hb1, e1, _, _, ca, cb⟩ := stp_at (HL.out.ext gStp HX.out) h1
      have HA := Lib.hid (anyp_step (p := badS) e1)
      clear e1 hb1
      cases g1 : badS (x1, y1) with
      | true =>
        have HC := Lib.hid (anyp_of_take (k := k + 1) (by rw [HA.out, ho.out, g1]; rfl))
        go_wp2_with (go_at_call 73; refine (badStep_any _ _ _).mono ?_; rintro e w1 ⟨rfl, hx1⟩)
        go_ret
        exact ⟨k, by rw [HC.out]; simp, rfl, ext_call HX.out hx1⟩
      | false =>
        have HD := Lib.hid (show (l.take (k + 1)).any badS = false by rw [HA.out, ho.out, g1]; rfl)
        go_wp2_with (go_at_call 73; refine (badStep_any _ _ _).mono ?_; rintro e w1 ⟨rfl, hx1⟩)
        go_roundw
        case rel => exact ⟨k + 1, by omega, by go_num, HD, ext_call HX.out hx1⟩
        case measure => simp [intOf]; omega
    · have hk : k = l.length := by omega
      subst hk
      have ho' := ho.out
      rw [List.take_of_length_le (Nat.le_refl _)] at ho'
      have HO := Lib.hid ho'
      clear ho ho'
      go_wp2
      go_ret
      exact ⟨-1, by rw [HO.out]; rfl, rfl, HX.out⟩

theorem containsStep_any {F : Nat → Prop} {w : World} {v : Value} {l : List Stp} (h : RSl RStp 2 F w v l) :
    Calls Try.prog 72 #[v, .func (.func 73) #[] #[]] w fun e w' => e = .returned (.bool (l.any badS)) ∧ Ext w w' := by
  have H := Lib.hid (idxStep_any h)
  clear h
  go_enter Try.func72, Try.ntmps72
  go_wp2_with (go_at_call 81; refine H.out.mono ?_; rintro e w1 ⟨n, hn, rfl, hx1⟩; have HN := Lib.hid hn; clear hn)
  go_ret
  exact ⟨rb HN.out, hx1⟩

set_option maxRecDepth 100000 in
set_option maxHeartbeats 800000 in
theorem check_any {F : Nat → Prop} {w : World} {cs : List Value} {m : Mk} (h : RMk F w cs m) :
    Calls Try.prog 62 #[.agg cs.toArray] w fun e w' => e = .returned (.int .i64 (checkM m)) ∧ Ext w w' := by
  obtain ⟨v, rfl, hl, _⟩ := h
  obtain ⟨l, c⟩ := m
  simp only at hl ⊢
  have HCO := Lib.hid (fun (W : World) (hx : Ext w W) => containsStep_any (hl.ext gStp hx))
  obtain ⟨a1, n1, c1, rfl⟩ := hl.slice
  obtain ⟨rfl, k1, k1'⟩ := hl.len
  unfold maxLen at k1'
  have q1 : l.length ≤ 9223372036854775807 := by omega
  clear k1 k1'
  have HL := Lib.hid hl
  clear hl
  by_cases hm : 10 < l.length
  · rw [checkM_many hm]
    go_enter Try.func62, Try.ntmps62
    go_wp2
    go_ret
    exact ⟨rfl, ext_alloc (ext_refl _) _⟩
  by_cases h0 : l.length = 0
  · rw [checkM_nil h0]
    have t1 : ((l.length : Int) == 0) = true := by rw [beq_iff_eq]; omega
    clear h0
    go_enter Try.func62, Try.ntmps62
    go_wp2
    go_ret
    exact ⟨rfl, ext_alloc (ext_refl _) _⟩
  have t1 : ((l.length : Int) == 0) = false := by rw [beq_eq_false_iff_ne]; omega
  have H0 := Lib.hid h0
  have hp : 0 < l.length := by omega
  clear h0
  cases g0 : l.any badS with
  | true =>
    have HC := Lib.hid (checkM_bad (c := c) hm H0.out g0)
    rw [g0] at HCO
    go_enter Try.func62, Try.ntmps62
    go_wp2_with (go_at_call 72; refine (HCO.out _ (ext_alloc (ext_refl _) _)).mono ?_; rintro e w1 ⟨rfl, hx1⟩)
    go_ret
    exact ⟨ri HC.out.symm, ext_call (ext_alloc (ext_refl _) _) hx1⟩
  | false =>
    have HC := Lib.hid (checkM_end (c := c) hm H0.out g0)
    rw [g0] at HCO
    have hlast : l.length - 1 < l.length := by omega
    obtain ⟨b1, o1, x1, y1, rfl, hb1, e1, _, _, ca, cb⟩ := stp_at HL.out hlast
    have HLD := Lib.hid (lastDigit_at e1)
    clear e1
    have HRA := Lib.hid (fun (w1 : World) (hx : Ext w w1) => (hx.cells b1 (o1 + (l.length - 1) * 2) hb1).trans ca)
    clear ca cb
    by_cases hx1 : x1 = 0
    · have t2 : (x1 == 0) = true := by rw [beq_iff_eq]; exact hx1
      have HZ := Lib.hid hx1
      clear hx1
      go_enter Try.func62, Try.ntmps62
      go_wp2_with (first
        | (go_at_call 72; refine (HCO.out _ (ext_alloc (ext_refl _) _)).mono ?_; rintro e w1 ⟨rfl, hx1⟩; have cd := HRA.out w1 (ext_call (ext_alloc (ext_refl _) _) hx1); have hz1 := (hx1.cells w.heap.size 0 (by simp <;> omega)).trans (show _ = some (.slice (some ⟨b1, o1, none⟩) l.length c1) by go_simp); have hz2 := (hx1.cells w.heap.size 1 (by simp <;> omega)).trans (show _ = some (.int .i64 c) by go_simp); have HX1 := Lib.hid hx1; clear hx1)
        | (go_at_call 58; refine (within_any _ _ _ _).mono ?_; rintro e w2 ⟨rfl, rfl⟩))
      go_ret
      exact ⟨ri (by rw [HC.out, if_pos (.inl (HLD.out.trans HZ.out))]), ext_call (ext_alloc (ext_refl _) _) HX1.out⟩
    · have t2 : (x1 == 0) = false := by rw [beq_eq_false_iff_ne]; exact hx1
      have HZ := Lib.hid hx1
      clear hx1
      cases g1 : inB c 1 10000 with
      | false =>
        go_enter Try.func62, Try.ntmps62
        go_wp2_with (first
          | (go_at_call 72; refine (HCO.out _ (ext_alloc (ext_refl _) _)).mono ?_; rintro e w1 ⟨rfl, hx1⟩; have cd := HRA.out w1 (ext_call (ext_alloc (ext_refl _) _) hx1); have hz1 := (hx1.cells w.heap.size 0 (by simp <;> omega)).trans (show _ = some (.slice (some ⟨b1, o1, none⟩) l.length c1) by go_simp); have hz2 := (hx1.cells w.heap.size 1 (by simp <;> omega)).trans (show _ = some (.int .i64 c) by go_simp); have HX1 := Lib.hid hx1; clear hx1)
          | (go_at_call 58; refine (within_any _ _ _ _).mono ?_; rintro e w2 ⟨rfl, rfl⟩))
        go_ret
        exact ⟨ri (by rw [HC.out, if_pos (.inr g1)]), ext_call (ext_alloc (ext_refl _) _) HX1.out⟩
      | true =>
        go_enter Try.func62, Try.ntmps62
        go_wp2_with (first
          | (go_at_call 72; refine (HCO.out _ (ext_alloc (ext_refl _) _)).mono ?_; rintro e w1 ⟨rfl, hx1⟩; have cd := HRA.out w1 (ext_call (ext_alloc (ext_refl _) _) hx1); have hz1 := (hx1.cells w.heap.size 0 (by simp <;> omega)).trans (show _ = some (.slice (some ⟨b1, o1, none⟩) l.length c1) by go_simp); have hz2 := (hx1.cells w.heap.size 1 (by simp <;> omega)).trans (show _ = some (.int .i64 c) by go_simp); have HX1 := Lib.hid hx1; clear hx1)
          | (go_at_call 58; refine (within_any _ _ _ _).mono ?_; rintro e w2 ⟨rfl, rfl⟩))
        go_ret
        exact ⟨ri (by rw [HC.out, if_neg (by rw [HLD.out, g1]; simp [HZ.out])]), ext_call (ext_alloc (ext_refl _) _) HX1.out⟩
end Go.Proofs.Ytiladkinndgeaaa
/- A region that draws its order, whose operations read, and whose callees make memory of their own and leave all that lay there alone: one walk, in the order of the text. -/
namespace Cp
open Go Go.RowKit

/-- a world in which all that lay in w is as it was -/
structure Later (w : World) where
  at_ : World
  ext : Ext w at_

instance later_some {w : World} : Nonempty (Later w) := ⟨⟨w, ext_refl w⟩⟩
theorem Later.cells {w : World} (u : Later w) : ∀ b o, b < w.heap.size → u.at_.cell? ⟨b, o, none⟩ = w.cell? ⟨b, o, none⟩ := u.ext.cells
theorem wp_region_later {P : Program} {id : Nat} {Q : Exit → Act → World → Prop} {a : Act} {w : World} {l : List Oper} (hm : P.follows .mixedOrders = true) (hB : Region.lexB .any l.toArray = true)
    (h : (∀ (u : Later w) b o, b < w.heap.size → u.at_.cell? ⟨b, o, none⟩ = w.cell? ⟨b, o, none⟩) →
      wpQuiet P l.toArray (fun W => ∃ u : Later w, W = u.at_) (fun a' => ∀ w', (∃ u : Later w, w' = u.at_) → Q .normal a' w') l a) : (Code.region id l.toArray true).wp P Q a w :=
  wp_region_quiet (C := fun W => ∃ u : Later w, W = u.at_) hm hB ⟨⟨w.drew, ext_drew (ext_refl _)⟩, rfl⟩ (h fun u => u.cells)
/-- the world gets a name -/
theorem wp_name {P : Program} {c : Code} {Q : Exit → Act → World → Prop} {a : Act} {w : World} (h : ∀ W, W = w → Code.wp P c Q a W) : Code.wp P c Q a w := h w rfl
theorem later_of {P : Program} {f : FuncId} {args : Array Value} {w : World} {u : Later w} {v : Value} (h : Calls P f args u.at_ fun e w' => e = .returned v ∧ Ext u.at_ w') :
    Calls P f args u.at_ fun e w'' => e = .returned v ∧ ∃ u' : Later w, w'' = u'.at_ :=
  h.mono fun _ w' ⟨he, hx⟩ => ⟨he, ⟨w', ext_trans u.ext hx⟩, rfl⟩
end Cp
/- Atoms: as they lie; the order of two; what is wrong with them, step by step. -/
namespace Go.Proofs.Ytiladkinndgeaaa
open Go Go.RowKit Go.BigFrame Cp

theorem rmk_of' {F : Nat → Prop} {w : World} {v : Value} {l : List Stp} {c : Int} (h : RSl RStp 2 F w v l) (i : I64 c) : RMk F w [v, .int .i64 c] (l, c) := ⟨v, rfl, h, i⟩
theorem drop_at {α : Type} {l : List α} {k : Nat} {a : α} (h : l[k]? = some a) : l.drop k = a :: l.drop (k + 1) := by
  obtain ⟨h1, h2⟩ := List.getElem?_eq_some_iff.1 h
  rw [List.drop_eq_getElem_cons h1, h2]
end Go.Proofs.Ytiladkinndgeaaa
/- What is wrong with atoms, by the document. -/
namespace Go.Proofs.Ytiladkinndgeaaa
open Go Go.RowKit Go.BigFrame Cp

end Go.Proofs.Ytiladkinndgeaaa
/- What is wrong with atoms, by the program. -/
namespace Go.Proofs.Ytiladkinndgeaaa
open Go Go.RowKit Go.BigFrame Cp

end Go.Proofs.Ytiladkinndgeaaa
/- The place of a mark among atoms in order. -/
namespace Go.Proofs.Ytiladkinndgeaaa
open Go Go.RowKit Go.BigFrame Cp

end Go.Proofs.Ytiladkinndgeaaa
/- What is wrong with a state: step by step. -/
namespace Go.Proofs.Ytiladkinndgeaaa
open Go Go.RowKit Go.BigFrame Cp

section
variable {ats : List At} {l : List Mk} {k : Nat} {a b : Mk} {p : Option Mk}
end
end Go.Proofs.Ytiladkinndgeaaa
/- Plain facts on atoms that are put: one more atom among atoms in order; many. -/
namespace Go.Proofs.Ytiladkinndgeaaa
open Go Go.RowKit Cp

end Go.Proofs.Ytiladkinndgeaaa
/- Plain facts on atoms: sorted atoms are what is to be seen of them at each mark; put in whatever order they are the same; what is taken is gone. -/
namespace Go.Proofs.Ytiladkinndgeaaa
open Go Go.RowKit Cp

def one (a : At) (x : Mk) : Option UInt8 := if ordM a.1 x = 0 then some a.2 else none
theorem ordM_self (a : Mk) : ordM a a = 0 := ordM_zero.2 rfl
end Go.Proofs.Ytiladkinndgeaaa
/- Plain facts on deeds that are done: one mark more among marks in order; a deed; deeds; what the document does, step by step. -/
namespace Go.Proofs.Ytiladkinndgeaaa
open Go Go.RowKit Cp

end Go.Proofs.Ytiladkinndgeaaa
/- The same atoms. -/
namespace Go.Proofs.Ytiladkinndgeaaa
open Go Go.RowKit Go.BigFrame Cp

theorem same_same {F G : Nat → Prop} {w : World} {cs ds : List Value} {a : Mk} (ha : RMk F w cs a) (hb : RMk G w ds a) : Calls Try.prog 75 #[.agg cs.toArray, .agg ds.toArray] w fun e w' => e = .returned (.bool true) ∧ Ext w w' := by
  have h1 := same_any ha hb
  rw [ordM_self] at h1
  exact h1
end Go.Proofs.Ytiladkinndgeaaa
/- A region that draws its order, whose operations read and whose last ones write: the reads by the cheap step. -/
namespace Cp
open Go Go.RowKit

end Cp
/- The place of a mark among marks in order; what is gone of a state that is worked on. -/
namespace Go.Proofs.Ytiladkinndgeaaa
open Go Go.RowKit Go.BigFrame Cp

end Go.Proofs.Ytiladkinndgeaaa
/- What is wrong with a state, by the program. -/
namespace Go.Proofs.Ytiladkinndgeaaa
open Go Go.RowKit Go.BigFrame Cp

end Go.Proofs.Ytiladkinndgeaaa
/- Places in a text. -/
namespace Go.Proofs.Ytiladkinndgeaaa
open Go Go.RowKit Cp

end Go.Proofs.Ytiladkinndgeaaa
/- Words that texts say often, said once. -/
namespace Cp
open Go Go.RowKit
theorem Ext.cl {a w : World} (h : Ext a w) (b o : Nat) (v : Value) (hb : b < a.heap.size := by first | omega | (simp <;> omega)) (hv : a.cell? ⟨b, o, none⟩ = some v := by first | (with_reducible assumption) | go_simp) : w.cell? ⟨b, o, none⟩ = some v := (h.cells b o hb).trans hv
theorem Ext.fz {a w : World} (h : Ext a w) (b o : Nat) (hb : b < a.heap.size := by first | omega | (simp <;> omega)) (hv : a.frozen? ⟨b, o, none⟩ = false := by first | (with_reducible assumption) | go_simp) : w.frozen? ⟨b, o, none⟩ = false := (h.frz b o hb).trans hv
theorem Ext.lt {a w : World} (h : Ext a w) (b : Nat) (hb : b < a.heap.size := by first | assumption | omega | (simp <;> omega)) : b < w.heap.size := Nat.lt_of_lt_of_le hb h.size
end Cp
/- A part of a slice. -/
namespace Go.Proofs.Ytiladkinndgeaaa
open Go Go.RowKit Cp

section
variable {α : Type} {R : Rd α} {sz : Nat} {F : Nat → Prop} {w : World} {l : List α}
theorem rsl_take {a : Option Addr} {n c : Nat} (h : RSl R sz F w (.slice a n c) l) {i : Nat} (hi : i ≤ n) : RSl R sz F w (.slice a i c) (l.take i) := by
  obtain ⟨a', cap, e, h1, h2, h3⟩ := h
  injection e with e1 e2 e3
  subst e1; subst e2; subst e3
  refine ⟨_, _, by rw [List.length_take, Nat.min_eq_left hi], by rw [List.length_take]; omega, h2, fun hne => ?_⟩
  obtain ⟨b', o', e', hF, hl, hx⟩ := h3 (fun e => hne (by rw [e]; simp))
  refine ⟨b', o', e', hF, hl, fun j x hj => ?_⟩
  rw [List.getElem?_take] at hj
  split at hj
  · exact hx j x hj
  · cases hj
end
end Go.Proofs.Ytiladkinndgeaaa
