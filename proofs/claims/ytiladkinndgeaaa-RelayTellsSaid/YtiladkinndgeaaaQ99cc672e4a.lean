/- Who does deeds: a run is put. -/
import Derived.RangeFuncNested
import Derived.RangeFuncBound
import Derived.RangeFuncCalls
import Derived.RangeFuncLeaves
import Derived.Shelf.Abstract
import Derived.Shelf.RegionOpen
import Derived.WalkKit
import Derived.OwnWalkIn
import Derived.TacticsInMore
import Derived.LoopNIn
import Derived.LoopIn
import Derived.Test.YtiladkinndgeaaaQ9e80978cc1
import Derived.Test.YtiladkinndgeaaaQ9749115744
import Derived.Test.YtiladkinndgeaaaQc313ebd2df
import Derived.Deep.RegionLaw
import Derived.Test.YtiladkinndgeaaaQdac6b4fc49
import Derived.Test.YtiladkinndgeaaaQ53c916c439
import Derived.Test.YtiladkinndgeaaaQ20aeae9040
set_option linter.unusedVariables false
set_option linter.unusedSimpArgs false
namespace Go.Proofs.Ytiladkinndgeaaa
open Go Go.RowKit Go.BigFrame Cp

attribute [local go_sem] Oper.semAt_some
theorem wpIn_name' {F : Fence} {n : Nat} {P : Program} {c : Code} {Q : Exit → Act → World → Prop} {a : Act} {w : World} (h : ∀ W, W = w → c.wpIn F n P Q a W) : c.wpIn F n P Q a w := h w rfl
/-- the normal way alone -/
def onlyN (K : Act → World → Prop) : Exit → Act → World → Prop
  | .normal, a, w => K a w
  | _, _, _ => False
theorem wpIn_only {F : Fence} {n : Nat} {P : Program} {c : Code} {Q : Exit → Act → World → Prop} {a : Act} {w : World} (h : c.wpIn F n P (onlyN (fun a w => Q .normal a w)) a w) : c.wpIn F n P Q a w :=
  wpIn_mono h fun e a w hq => by cases e <;> first | exact hq | exact hq.elim
theorem others_ext {W W' : World} (h : Ext W W') : KeepsOthers W W' := ⟨Below.size h, fun k o hk _ => (Below.block h k (Array.getElem?_eq_some_iff.1 hk).1).trans hk⟩
theorem filter_one {α : Type} (p : α → Bool) (x : α) : [x].filter p = if p x = true then [x] else [] := by cases h : p x <;> simp [h]
theorem kept_putObj {Z : Nat → Prop} {a w : World} (h : Kept Z a w) {k : Nat} (hk : ¬ Z k) (o : Obj) : Kept Z a (w.putObj k o) :=
  ⟨h.os, h.tape, h.output, by simp only [World.putObj, Array.size_setIfInBounds]; exact h.size, fun j hj hl => (World.putObj_heap_other (fun e => hk (by first | (rw [← e]; exact hj) | (rw [e]; exact hj)))).trans (h.block j hj hl)⟩
theorem cell_putObj {w : World} {k b : Nat} (h : b ≠ k) (o : Nat) (x : Obj) : (w.putObj k x).cell? ⟨b, o, none⟩ = w.cell? ⟨b, o, none⟩ := World.cell?_of_block (a := ⟨b, o, none⟩) (World.putObj_heap_other (by omega))
theorem frz_putObj {w : World} {k b : Nat} (h : b ≠ k) (o : Nat) (x : Obj) : (w.putObj k x).frozen? ⟨b, o, none⟩ = w.frozen? ⟨b, o, none⟩ := World.frozen?_of_block (a := ⟨b, o, none⟩) (World.putObj_heap_other (by omega))
theorem filter_right {l : List At} {p : At → Bool} (h : RightA l) : RightA (l.filter p) := by
  obtain ⟨hs, ha⟩ := h
  refine ⟨?_, fun a hm => ha a (List.mem_filter.1 hm).1⟩
  clear ha
  induction l with
  | nil => trivial
  | cons x r ih =>
    rw [List.filter_cons]
    split
    · exact sortedA_mk (ih (sortedA_tail hs)) (fun b hb => sortedA_head hs b (List.mem_filter.1 hb).1)
    · exact ih (sortedA_tail hs)
end Go.Proofs.Ytiladkinndgeaaa
/- Who does deeds: a deed. -/
namespace Go.Proofs.Ytiladkinndgeaaa
open Go Go.RowKit Go.BigFrame Cp

theorem marksN_succ (m : Mk) (k : Nat) : marksN m (k + 1) = marksN m k ++ [afterM m (k : Int)] := by unfold marksN; rw [List.range_succ, List.map_append]; rfl
theorem putGs_snoc (l ms : List Mk) (m : Mk) : putGs l (ms ++ [m]) = putG (putGs l ms) m := by simp [putGs]
theorem rrn_of_de {F : Nat → Prop} {w : World} {v s u : Value} {d : De} (h : RDe F w [.int .i64 d.kind, v, .int .i64 d.run.1.2, s, u, .int .i64 d.mark.2, .int .i64 d.many] d) : RRn F w [v, .int .i64 d.run.1.2, s] d.run ∧ RMk F w [u, .int .i64 d.mark.2] d.mark := by
  obtain ⟨v', s', u', e, _, h1, h2, h3, h4, h5, _⟩ := h
  simp at e
  obtain ⟨rfl, rfl, rfl⟩ := e
  exact ⟨⟨_, _, rfl, h1, h2, h3⟩, ⟨_, rfl, h4, h5⟩⟩
end Go.Proofs.Ytiladkinndgeaaa
/- Deeds that are right, of a state that is. -/
namespace Go.Proofs.Ytiladkinndgeaaa
open Go Go.RowKit Go.BigFrame Cp

end Go.Proofs.Ytiladkinndgeaaa
/- Deeds, with errors. -/
namespace Go.Proofs.Ytiladkinndgeaaa
open Go Go.RowKit Go.BigFrame Cp

end Go.Proofs.Ytiladkinndgeaaa
/- A deed, with errors. -/
namespace Go.Proofs.Ytiladkinndgeaaa
open Go Go.RowKit Go.BigFrame Cp

theorem rangeAt7 {w : World} {b o : Nat} {x0 x1 x2 x3 x4 x5 x6 : Value} (h0 : w.cell? ⟨b, o, none⟩ = some x0) (h1 : w.cell? ⟨b, o + 1, none⟩ = some x1) (h2 : w.cell? ⟨b, o + 2, none⟩ = some x2) (h3 : w.cell? ⟨b, o + 3, none⟩ = some x3)
    (h4 : w.cell? ⟨b, o + 4, none⟩ = some x4) (h5 : w.cell? ⟨b, o + 5, none⟩ = some x5) (h6 : w.cell? ⟨b, o + 6, none⟩ = some x6) : w.rangeAt b o [x0, x1, x2, x3, x4, x5, x6] := by
  intro j v hv
  match j, hv with
  | 0, hv => exact (by simpa using hv : x0 = v) ▸ h0
  | 1, hv => exact (by simpa using hv : x1 = v) ▸ h1
  | 2, hv => exact (by simpa using hv : x2 = v) ▸ h2
  | 3, hv => exact (by simpa using hv : x3 = v) ▸ h3
  | 4, hv => exact (by simpa using hv : x4 = v) ▸ h4
  | 5, hv => exact (by simpa using hv : x5 = v) ▸ h5
  | 6, hv => exact (by simpa using hv : x6 = v) ▸ h6
theorem de_one {F : Nat → Prop} {W : World} {r : Nat} {c0 c1 c2 c3 c4 c5 c6 : Value} {d : De} (h : RDe F W [c0, c1, c2, c3, c4, c5, c6] d) (h0 : W.cell? ⟨r, 0, none⟩ = some c0) (h1 : W.cell? ⟨r, 1, none⟩ = some c1) (h2 : W.cell? ⟨r, 2, none⟩ = some c2) (h3 : W.cell? ⟨r, 3, none⟩ = some c3)
    (h4 : W.cell? ⟨r, 4, none⟩ = some c4) (h5 : W.cell? ⟨r, 5, none⟩ = some c5) (h6 : W.cell? ⟨r, 6, none⟩ = some c6) :
    RSl RDe 7 (fun j => F j ∨ j = r) W (.slice (some ⟨r, 0, none⟩) 1 1) [d] :=
  rsl_of_range (o := 0) (xs := [c0, c1, c2, c3, c4, c5, c6]) (rangeAt7 h0 h1 h2 h3 h4 h5 h6) (chunks_one rfl (gDe.more (fun _ h _ => Or.inl h) h)) (Or.inr rfl) (World.block_lt_of_cell? _ _ h0) (Nat.le_refl _) (by unfold maxLen; omega)
end Go.Proofs.Ytiladkinndgeaaa
/- A part of a slice; deeds that take, and their list. -/
namespace Go.Proofs.Ytiladkinndgeaaa
open Go Go.RowKit Go.BigFrame Cp

theorem info_deF : (Try.prog.info? 60).map (fun i => (i.zero, i.size, i.bytes)) = some (some (.agg #[.int .i64 0, .slice none 0 0, .int .i64 0, .string ⟨#[]⟩, .slice none 0 0, .int .i64 0, .int .i64 0]), 7, 96) := by kernel_rfl
theorem one_deF : ∀ F w cs (y : De), RDe F w cs y → ∀ u ∈ cs, u.oneCell' = true := by
  rintro F w cs y ⟨v, s, u, rfl, _, h1, _, h3, h4, _, _⟩ x hx
  obtain ⟨a1, n1, c1, rfl⟩ := h1.slice
  obtain ⟨a2, n2, c2, rfl⟩ := h4.slice
  obtain ⟨t, rfl, _⟩ := tx_bytes h3
  simp at hx
  rcases hx with rfl | rfl | rfl | rfl | rfl | rfl | rfl <;> rfl
theorem deF_len {a b : Nat} (h : a ≤ 300) (hb : b ≤ 1) : a + b ≤ maxLen := Nat.le_trans (by omega : a + b ≤ 301) (by unfold maxLen; decide)
theorem deF_byt {a b : Nat} (h : a ≤ 300) (hb : b ≤ 1) : (a + b) * 96 ≤ 140737488355328 := by omega
theorem rsl_sub {α : Type} {R : Rd α} {sz : Nat} {F : Nat → Prop} {w : World} {l : List α} {a : Option Addr} {n c : Nat} (h : RSl R sz F w (.slice a n c) l) {i j : Nat} (hij : i ≤ j) (hj : j ≤ n) :
    RSl R sz F w (.slice (if c = i then a else a.map (·.add (i * sz))) (j - i) (c - i)) ((l.drop i).take (j - i)) := by
  obtain ⟨a', cap, e, h1, h2, h3⟩ := h
  injection e with e1 e2 e3
  subst e1; subst e2; subst e3
  refine ⟨_, _, by rw [List.length_take, List.length_drop, Nat.min_eq_left (by omega)], by rw [List.length_take, List.length_drop]; omega, by omega, fun hne => ?_⟩
  have hlt : i < j := by
    rcases Nat.lt_or_ge i j with h | h
    · exact h
    · exact absurd (by rw [show j - i = 0 by omega]; rfl) hne
  rw [if_neg (by omega)]
  obtain ⟨b', o', e', hF, hl, hx⟩ := h3 (fun e => by subst e; simp at hj; omega)
  subst e'
  refine ⟨b', o' + i * sz, by simp [Addr.add], hF, hl, fun t x ht => ?_⟩
  rw [List.getElem?_take] at ht
  split at ht
  · rw [List.getElem?_drop] at ht
    obtain ⟨cs, c1, c2, c3⟩ := hx (i + t) x ht
    exact ⟨cs, c1, by rw [Nat.add_mul, ← Nat.add_assoc] at c2; exact c2, c3⟩
  · cases ht
/-- the deed that takes a run's signs; one that puts a run -/
def takeDe (r : Rn) : De := ⟨2, (([], 0), []), r.1, (r.2.length : Int)⟩
def putDe (r : Rn) : De := ⟨1, r, ([], 0), 0⟩
def cutE (s : St) (a n : Int) : Int := if checkS s ≠ 0 then checkS s else if insideB a n s.1.length = false then 3 else 0
def cutL (s : St) (a n : Nat) : List At := (s.1.drop a).take n
def cutV (s : St) (a n : Int) : List De := if cutE s a n = 0 then (runsA (cutL s a.toNat n.toNat)).map takeDe else []
theorem inside_nat {a n : Int} {k : Nat} (h : insideB a n k = true) : ∃ i j : Nat, a = (i : Int) ∧ n = (j : Int) ∧ i + j ≤ k := by
  unfold insideB at h
  simp only [Bool.and_eq_true, decide_eq_true_eq] at h
  exact ⟨a.toNat, n.toNat, by omega, by omega, by omega⟩
theorem sortedA_suf : ∀ {l : List At} (i : Nat), SortedA l → SortedA (l.drop i)
  | _, 0, h => h
  | [], _ + 1, h => by simpa using h
  | _ :: r, i + 1, h => sortedA_suf i (sortedA_tail h)
theorem sortedA_pre {l : List At} (i : Nat) (h : SortedA l) : SortedA (l.take i) := by
  refine sortedA_idx fun j a b ha hb => ?_
  rw [List.getElem?_take] at ha hb
  split at ha
  · split at hb
    · exact sortedA_lt h (j + 1) a b j (by omega) ha hb
    · cases hb
  · cases ha
theorem cutL_right {s : St} (h : checkS s = 0) (a n : Nat) : checkA (cutL s a n) = 0 := by
  have hf := checkS_fit.1 h
  have hl : (cutL s a n).length ≤ 300 := by unfold cutL; rw [List.length_take, List.length_drop]; have := hf.2.1; omega
  have hr : RightA (cutL s a n) := ⟨sortedA_pre _ (sortedA_suf _ hf.1.1.1), fun x hx => hf.1.1.2 x (List.mem_of_mem_drop (List.mem_of_mem_take hx))⟩
  rw [right_to hr, if_neg (by omega)]
theorem runsA_few (l : List At) : (runsA l).length ≤ l.length := by
  have := runsA_len l l.length
  rwa [List.take_length] at this
def IsDesE (l : List De) (er : Int) (w : World) (e : Ending) (w' : World) : Prop := ∃ v, e = .returned (.tuple #[v, .int .i64 er]) ∧ RSl RDe 7 (fun j => w.heap.size ≤ j) w' v l ∧ Ext w w'
theorem takeDe_is {F : Nat → Prop} {w : World} {v : Value} {p : List Stp} {c : Int} {t : Tx} (h : RSl RStp 2 F w v p) (hc : I64 c) (ht : t.length ≤ 60) :
    RDe F w [.int .i64 2, .slice none 0 0, .int .i64 0, .string ⟨#[]⟩, v, .int .i64 c, .int .i64 (t.length : Int)] (takeDe ((p, c), t)) :=
  ⟨_, _, _, rfl, i64_small (by simp [takeDe]) (by simp [takeDe]), RSl.nil_ (Nat.zero_le _), i64_small (by simp [takeDe]) (by simp [takeDe]), ⟨rfl, by simp [takeDe]⟩, h, hc, i64_small (by simp [takeDe]) (by simp only [takeDe]; omega)⟩
theorem map_snoc {α β : Type} {l : List α} {k : Nat} {a : α} {f : α → β} (h : l[k]? = some a) : (l.take (k + 1)).map f = (l.take k).map f ++ [f a] := by
  obtain ⟨h1, h2⟩ := List.getElem?_eq_some_iff.1 h
  rw [List.take_succ_eq_append_getElem h1, h2, List.map_append]; rfl
end Go.Proofs.Ytiladkinndgeaaa
