/- Arguments as they come in, opened: what is read off them as a datum, told by the words of Rep. -/
import Derived.Test.YtiladkinndgeaaaRows
import Derived.ProofKit
import Derived.OpenShut
import Derived.ShutString
import Derived.ChangeOld
import Derived.Carry
import Derived.Deep.Slices
import Derived.Test.YtiladkinndgeaaaQ6d6b76f88d
set_option linter.unusedVariables false
set_option linter.unusedSimpArgs false
namespace Go.Proofs.Ytiladkinndgeaaa
open Go Go.RowKit Go.ChangeShapes Go.WideShapes Go.Deep Cp

theorem list_of {α : Type} {Q : Nat → α → Prop} : ∀ (n : Nat), (∀ i, i < n → ∃ x, Q i x) → ∃ l : List α, l.length = n ∧ ∀ i x, l[i]? = some x → Q i x
  | 0, _ => ⟨[], rfl, by simp⟩
  | n + 1, h => by
    obtain ⟨l, hl, hq⟩ := list_of n (fun i hi => h i (by omega))
    obtain ⟨x, hx⟩ := h n (by omega)
    refine ⟨l ++ [x], by simp [hl], fun i y hy => ?_⟩
    by_cases hi : i < n
    · rw [List.getElem?_append_left (by omega)] at hy
      exact hq i y hy
    · by_cases he : i = n
      · subst he
        rw [List.getElem?_append_right (by omega), hl, Nat.sub_self] at hy
        have : x = y := by simpa using hy
        subst this; exact hx
      · rw [List.getElem?_eq_none (by simp; omega)] at hy
        cases hy

theorem len2 {α : Type} {l : List α} (h : l.length = 2) : ∃ a b, l = [a, b] := by
  cases l with
  | nil => simp at h
  | cons a l => cases l with
    | nil => simp at h
    | cons b l => cases l with
      | nil => exact ⟨a, b, rfl⟩
      | cons c l => simp at h
theorem len3 {α : Type} {l : List α} (h : l.length = 3) : ∃ a b c, l = [a, b, c] := by
  cases l with
  | nil => simp at h
  | cons a l =>
    obtain ⟨b, c, rfl⟩ := len2 (l := l) (by simpa using h)
    exact ⟨a, b, c, rfl⟩
theorem len4 {α : Type} {l : List α} (h : l.length = 4) : ∃ a b c d, l = [a, b, c, d] := by
  cases l with
  | nil => simp at h
  | cons a l =>
    obtain ⟨b, c, d, rfl⟩ := len3 (l := l) (by simpa using h)
    exact ⟨a, b, c, d, rfl⟩
section
variable {H : Type} {enc : TypeId × Value → H} {w : World} {sp : Nat → Bool} {held : Bool} {fuel : Nat}
abbrev T0 : Nat → Prop := fun _ => True

theorem i64_of {n : Int} (h : (Lit.int .i64 n).wf = true) : I64 n := bounds_i64 h
theorem o_int {t : Nat} {cs : List Value} {y : DataW H × List MemPlace} (hu : Try.prog.underlying t = some (.int .i64)) (h : DataW.trod enc Try.prog w 0 sp held fuel t cs = some y) : ∃ n, cs = [.int .i64 n] ∧ I64 n := by
  obtain ⟨n, e, _, hw⟩ := DataW.trod_int hu h
  exact ⟨n, e, i64_of hw⟩
theorem sl_of {α : Type} {R : Rd α} {sz : Nat} {w : World} (hz : 0 < sz) {a : Addr} {len cap : Nat} (hl : len ≤ cap) (hm : cap ≤ maxLen)
    (hQ : ∀ i, i < len → ∃ x, ∃ cs : List Value, cs.length = sz ∧ (∀ j, j < sz → w.cell? ((a.add (i * sz)).add j) = cs[j]?) ∧ R T0 w cs x) : ∃ v l, [Value.slice (some a) len cap] = [v] ∧ RSl R sz T0 w v l := by
  obtain ⟨l, hll, hq⟩ := list_of len hQ
  subst hll
  refine ⟨_, l, rfl, a, cap, rfl, hl, hm, fun hne => ?_⟩
  have h0 : 0 < l.length := List.length_pos_iff.2 hne
  obtain ⟨cs0, c0, d0, _⟩ := hq 0 l[0] (List.getElem?_eq_getElem h0)
  have hc0 := d0 0 hz
  rw [List.getElem?_eq_getElem (by omega)] at hc0
  simp only [Nat.zero_mul] at hc0
  have ha0 : ∀ b : Addr, b.add 0 = b := fun b => by simp [Addr.add]
  rw [ha0, ha0] at hc0
  have hsp := World.cell?_spot hc0
  obtain ⟨b, o, s⟩ := a
  simp only at hsp
  subst hsp
  refine ⟨b, o, rfl, trivial, World.block_lt_of_cell? _ _ hc0, fun i x hx => ?_⟩
  obtain ⟨cs, c1, c2, c3⟩ := hq i x hx
  refine ⟨cs, c1, fun j v hv => ?_, c3⟩
  have hj : j < sz := by
    rw [← c1]
    rcases Nat.lt_or_ge j cs.length with h | h
    · exact h
    · rw [List.getElem?_eq_none h] at hv; cases hv
  have := c2 j hj
  rw [Addr.add_mid, Addr.add_mid, hv] at this
  exact this

/-- no string or slice in a datum is greater than what the form lets in -/
def Small (t : TypeId) (d : DataW H) : Prop := ∀ n ∈ DataW.weights Try.prog t d, n ≤ 140737488351232
theorem small_of {ts : List TypeId} {ds : List (DataW H)} (h : (DataW.weightsEach Try.prog ts ds).all (· ≤ reachBytes) = true) :
    ∀ (i : Nat) (t : TypeId) (d : DataW H), ts[i]? = some t → ds[i]? = some d → Small t d := by
  induction ts generalizing ds with
  | nil => intro i t d h1; simp at h1
  | cons t0 ts ih =>
    cases ds with
    | nil => intro i t d _ h2; simp at h2
    | cons d0 ds =>
      simp only [DataW.weightsEach, List.all_append, Bool.and_eq_true] at h
      intro i t d h1 h2 n hn
      cases i with
      | zero =>
        have e1 : t0 = t := by simpa using h1
        have e2 : d0 = d := by simpa using h2
        subst e1; subst e2
        have := List.all_eq_true.1 h.1 n hn
        exact of_decide_eq_true this
      | succ i => exact ih h.2 i t d (by simpa using h1) (by simpa using h2) n hn
theorem weights_mem {e : TypeId} {d : DataW H} : ∀ {ds : List (DataW H)}, d ∈ ds → ∀ n ∈ DataW.weights Try.prog e d, n ∈ DataW.weightsAll Try.prog e ds
  | d0 :: ds, h, n, hn => by
    simp only [DataW.weightsAll, List.mem_append]
    rcases List.mem_cons.1 h with rfl | h
    · exact .inl hn
    · exact .inr (weights_mem h n hn)
theorem small_part {t : TypeId} {fs : Array Field} {parts : List (DataW H)} (hu : Try.prog.underlying t = some (.struct fs)) (h : Small t (.agg parts)) :
    ∀ (i : Nat) (t : TypeId) (d : DataW H), (fs.toList.map (·.type))[i]? = some t → parts[i]? = some d → Small t d := by
  unfold Small at h
  simp only [DataW.weights, hu] at h
  refine small_of (ts := fs.toList.map (·.type)) (ds := parts) (List.all_eq_true.2 fun n hn => ?_)
  exact decide_eq_true (h n hn)
theorem o_str {t : Nat} {cs : List Value} {y : DataW H × List MemPlace} (hu : Try.prog.underlying t = some .string) (hw : Small t y.1) (h : DataW.trod enc Try.prog w 0 sp held fuel t cs = some y) : ∃ v s, cs = [v] ∧ RTx v s := by
  obtain ⟨s, e, rfl, hl⟩ := DataW.trod_string hu h
  exact ⟨_, s.data.toList, e, by simp, hw _ (by simp [DataW.weights])⟩

theorem o_slS {α : Type} {R : Rd α} {sz t e : Nat} (hz : 0 < sz) (ht : Try.prog.underlying t = some (.slice e)) (hC : Try.prog.cellsOf e = sz)
    (hR : ∀ n cs y, cs.length = sz → Small e y.1 → DataW.trod enc Try.prog w 0 sp held n e cs = some y → ∃ x, R T0 w cs x)
    {cs : List Value} {y : DataW H × List MemPlace} (hw : Small t y.1) (h : DataW.trod enc Try.prog w 0 sp held fuel t cs = some y) : ∃ v l, cs = [v] ∧ RSl R sz T0 w v l := by
  rcases open_slice ht h with ⟨rfl, _⟩ | ⟨a, len, cap, m, n, D, Pl, rfl, _, hl, hm, hmm, rfl, hi⟩
  · exact ⟨_, [], rfl, RSl.nil_ (Nat.zero_le _)⟩
  · have hlm : len ≤ m := by rw [hmm]; split <;> omega
    have hsm : ∀ i, i < len → Small e (D i) := by
      intro i hi' k hk
      refine hw k ?_
      simp only [DataW.weights, ht, List.mem_cons, List.mem_append]
      exact .inr (.inl (weights_mem (List.mem_map.2 ⟨i, List.mem_range.2 hi', rfl⟩) k hk))
    have hQ : ∀ i, i < len → ∃ x, ∃ cs, cs.length = sz ∧ (∀ j, j < sz → w.cell? ((a.add (i * sz)).add j) = cs[j]?) ∧ R T0 w cs x := by
      intro i hi'
      obtain ⟨cs', hc, ht'⟩ := hi i (by omega)
      rw [hC] at hc
      obtain ⟨_, hcl, hat⟩ := World.cells?_some hc
      obtain ⟨x, hx⟩ := hR n cs' _ hcl (hsm i hi') ht'
      exact ⟨x, cs', hcl, hat, hx⟩
    exact sl_of hz hl hm hQ

theorem o_sl {α : Type} {R : Rd α} {sz t e : Nat} (hz : 0 < sz) (ht : Try.prog.underlying t = some (.slice e)) (hC : Try.prog.cellsOf e = sz)
    (hR : ∀ n cs y, cs.length = sz → DataW.trod enc Try.prog w 0 sp held n e cs = some y → ∃ x, R T0 w cs x)
    {cs : List Value} {y : DataW H × List MemPlace} (h : DataW.trod enc Try.prog w 0 sp held fuel t cs = some y) : ∃ v l, cs = [v] ∧ RSl R sz T0 w v l := by
  rcases open_slice ht h with ⟨rfl, _⟩ | ⟨a, len, cap, m, n, D, Pl, rfl, _, hl, hm, hmm, _, hi⟩
  · exact ⟨_, [], rfl, RSl.nil_ (Nat.zero_le _)⟩
  · have hlm : len ≤ m := by rw [hmm]; split <;> omega
    have hQ : ∀ i, i < len → ∃ x, ∃ cs, cs.length = sz ∧ (∀ j, j < sz → w.cell? ((a.add (i * sz)).add j) = cs[j]?) ∧ R T0 w cs x := by
      intro i hi'
      obtain ⟨cs', hc, ht'⟩ := hi i (by omega)
      rw [hC] at hc
      obtain ⟨_, hcl, hat⟩ := World.cells?_some hc
      obtain ⟨x, hx⟩ := hR n cs' _ hcl ht'
      exact ⟨x, cs', hcl, hat, hx⟩
    exact sl_of hz hl hm hQ

theorem c_int : Try.prog.cellsOf 3 = 1 := by kernel_rfl
theorem c_step : Try.prog.cellsOf 96 = 2 := by kernel_rfl
theorem c_steps : Try.prog.cellsOf 54 = 1 := by kernel_rfl
theorem c_mark : Try.prog.cellsOf 56 = 2 := by kernel_rfl
theorem o_step {cs : List Value} {y : DataW H × List MemPlace} (h : DataW.trod enc Try.prog w 0 sp held fuel 96 cs = some y) : ∃ s, RStp T0 w cs s := by
  obtain ⟨xs, n, _, _, hl, hx, hg⟩ := DataW.trod_struct Try.underlying96 h
  obtain ⟨c0, c1, rfl⟩ := len2 (hl.trans c_step)
  obtain ⟨y0, y1, rfl⟩ := len2 hx
  · · have g0 := hg 0 _ rfl
      have g1 := hg 1 _ rfl
      simp [c_int] at g0 g1
      obtain ⟨a, e0, i0⟩ := o_int Try.underlying3 g0
      obtain ⟨b, e1, i1⟩ := o_int Try.underlying3 g1
      simp at e0 e1
      exact ⟨(a, b), by rw [e0, e1], i0, i1⟩
theorem o_steps {cs : List Value} {y : DataW H × List MemPlace} (h : DataW.trod enc Try.prog w 0 sp held fuel 54 cs = some y) : ∃ v l, cs = [v] ∧ RSl RStp 2 T0 w v l :=
  o_sl (by omega) Try.underlying54 c_step (fun _ _ _ _ h => o_step h) h
theorem o_mark {cs : List Value} {y : DataW H × List MemPlace} (h : DataW.trod enc Try.prog w 0 sp held fuel 56 cs = some y) : ∃ m, RMk T0 w cs m := by
  obtain ⟨xs, n, _, _, hl, hx, hg⟩ := DataW.trod_struct Try.underlying56 h
  obtain ⟨c0, c1, rfl⟩ := len2 (hl.trans c_mark)
  obtain ⟨y0, y1, rfl⟩ := len2 hx
  · · have g0 := hg 0 _ rfl
      have g1 := hg 1 _ rfl
      simp [c_int, c_steps] at g0 g1
      obtain ⟨v, l, e0, i0⟩ := o_steps g0
      obtain ⟨b, e1, i1⟩ := o_int Try.underlying3 g1
      simp at e0 e1
      exact ⟨(l, b), v, by rw [e0, e1], i0, i1⟩

theorem c_str : Try.prog.cellsOf 9 = 1 := by kernel_rfl
end

/-! ### arguments -/
section
variable {H : Type} {enc : TypeId × Value → H} {w : World} {sp : Nat → Bool} {held : Bool} {b : Nat} {r : Reach} {v : Value} {d : DataW H} {p : List MemPlace}
set_option maxRecDepth 100000 in
theorem in_int (hv : Value.okWide Try.prog w r b 3 v) (h : DataW.Trod enc Try.prog w 0 sp held 3 v d p) : ∃ n, v = .int .i64 n ∧ I64 n := by
  obtain ⟨x, rfl, _, _, wx⟩ := open_int Try.underlying3 hv h
  exact ⟨x, rfl, i64_of wx⟩
end
end Go.Proofs.Ytiladkinndgeaaa
/- Arguments as they come in: atoms, marks, states. -/
namespace Go.Proofs.Ytiladkinndgeaaa
open Go Go.RowKit Go.ChangeShapes Go.WideShapes Go.Deep Cp
section
variable {H : Type} {enc : TypeId × Value → H} {w : World} {sp : Nat → Bool} {held : Bool} {fuel : Nat}
end
section
variable {H : Type} {enc : TypeId × Value → H} {w : World} {sp : Nat → Bool} {held : Bool} {b : Nat} {r : Reach} {v : Value} {d : DataW H} {p : List MemPlace}
end
end Go.Proofs.Ytiladkinndgeaaa
/- Arguments as they come in: runs. -/
namespace Go.Proofs.Ytiladkinndgeaaa
open Go Go.RowKit Go.ChangeShapes Go.WideShapes Go.Deep Cp
section
variable {H : Type} {enc : TypeId × Value → H} {w : World} {sp : Nat → Bool} {held : Bool} {fuel : Nat}
theorem c_run : Try.prog.cellsOf 58 = 3 := by kernel_rfl
theorem o_run {cs : List Value} {y : DataW H × List MemPlace} (hw : Small 58 y.1) (h : DataW.trod enc Try.prog w 0 sp held fuel 58 cs = some y) : ∃ r, RRn T0 w cs r := by
  obtain ⟨xs, n, _, rfl, hl, hx, hg⟩ := DataW.trod_struct Try.underlying58 h
  obtain ⟨c0, c1, c2, rfl⟩ := len3 (hl.trans c_run)
  obtain ⟨y0, y1, rfl⟩ := len2 hx
  · · have g0 := hg 0 _ rfl
      have g1 := hg 1 _ rfl
      simp [c_mark, c_str] at g0 g1
      obtain ⟨m, v, e0, i0, i1⟩ := o_mark g0
      obtain ⟨u, t, e1, i2⟩ := o_str Try.underlying9 (small_part Try.underlying58 hw 1 _ _ rfl rfl) g1
      simp at e0 e1
      exact ⟨(m, t), v, u, by rw [e0.1, e0.2, e1], i0, i1, i2⟩
end
section
variable {H : Type} {enc : TypeId × Value → H} {w : World} {sp : Nat → Bool} {held : Bool} {b : Nat} {r : Reach} {v : Value} {d : DataW H} {p : List MemPlace}
end
end Go.Proofs.Ytiladkinndgeaaa
/- Arguments as they come in: deeds. -/
namespace Go.Proofs.Ytiladkinndgeaaa
open Go Go.RowKit Go.ChangeShapes Go.WideShapes Go.Deep Cp
section
variable {H : Type} {enc : TypeId × Value → H} {w : World} {sp : Nat → Bool} {held : Bool} {fuel : Nat}
theorem len7 {α : Type} {l : List α} (h : l.length = 7) : ∃ a b c d e f g, l = [a, b, c, d, e, f, g] := by
  match l, h with
  | [a, b, c, d, e, f, g], _ => exact ⟨a, b, c, d, e, f, g, rfl⟩
theorem c_deed : Try.prog.cellsOf 60 = 7 := by kernel_rfl
theorem o_deed {cs : List Value} {y : DataW H × List MemPlace} (hw : Small 60 y.1) (h : DataW.trod enc Try.prog w 0 sp held fuel 60 cs = some y) : ∃ r, RDe T0 w cs r := by
  obtain ⟨xs, n, _, rfl, hl, hx, hg⟩ := DataW.trod_struct Try.underlying60 h
  obtain ⟨c0, c1, c2, c3, c4, c5, c6, rfl⟩ := len7 (hl.trans c_deed)
  obtain ⟨y0, y1, y2, y3, rfl⟩ := len4 hx
  · · have g0 := hg 0 _ rfl
      have g1 := hg 1 _ rfl
      have g2 := hg 2 _ rfl
      have g3 := hg 3 _ rfl
      simp [c_int, c_run, c_mark] at g0 g1 g2 g3
      obtain ⟨k, e0, i0⟩ := o_int Try.underlying3 g0
      obtain ⟨r, v, s, e1, i1, i2, i3⟩ := o_run (small_part Try.underlying60 hw 1 _ _ rfl rfl) g1
      obtain ⟨m, u, e2, i4, i5⟩ := o_mark g2
      obtain ⟨q, e3, i6⟩ := o_int Try.underlying3 g3
      simp at e0 e1 e2 e3
      exact ⟨⟨k, r, m, q⟩, v, s, u, by rw [e0, e1.1, e1.2.1, e1.2.2, e2.1, e2.2, e3], i0, i1, i2, i3, i4, i5, i6⟩
theorem o_deeds {cs : List Value} {y : DataW H × List MemPlace} (hw : Small 23 y.1) (h : DataW.trod enc Try.prog w 0 sp held fuel 23 cs = some y) : ∃ v l, cs = [v] ∧ RSl RDe 7 T0 w v l :=
  o_slS (by omega) Try.underlying23 c_deed (fun _ _ _ _ hs h => o_deed hs h) hw h
end
section
variable {H : Type} {enc : TypeId × Value → H} {w : World} {sp : Nat → Bool} {held : Bool} {b : Nat} {r : Reach} {v : Value} {d : DataW H} {p : List MemPlace}
end
end Go.Proofs.Ytiladkinndgeaaa
/- Arguments as they come in: numbers. -/
namespace Go.Proofs.Ytiladkinndgeaaa
open Go Go.RowKit Go.ChangeShapes Go.WideShapes Go.Deep Cp
section
variable {H : Type} {enc : TypeId × Value → H} {w : World} {sp : Nat → Bool} {held : Bool} {fuel : Nat}
theorem c_ints : Try.prog.cellsOf 22 = 1 := by kernel_rfl
theorem o_ints {cs : List Value} {y : DataW H × List MemPlace} (h : DataW.trod enc Try.prog w 0 sp held fuel 22 cs = some y) : ∃ v l, cs = [v] ∧ RSl RInt 1 T0 w v l :=
  o_sl (by omega) Try.underlying22 c_int (fun _ _ _ _ h => by obtain ⟨n, e, i⟩ := o_int Try.underlying3 h; exact ⟨n, e, i⟩) h
end
section
variable {H : Type} {enc : TypeId × Value → H} {w : World} {sp : Nat → Bool} {held : Bool} {b : Nat} {r : Reach} {v : Value} {d : DataW H} {p : List MemPlace}
end
end Go.Proofs.Ytiladkinndgeaaa
/- Arguments as they come in: notes. -/
namespace Go.Proofs.Ytiladkinndgeaaa
open Go Go.RowKit Go.ChangeShapes Go.WideShapes Go.Deep Cp
section
variable {H : Type} {enc : TypeId × Value → H} {w : World} {sp : Nat → Bool} {held : Bool} {fuel : Nat}
theorem c_note : Try.prog.cellsOf 25 = 4 := by kernel_rfl
theorem c_deeds : Try.prog.cellsOf 23 = 1 := by kernel_rfl
theorem o_note {cs : List Value} {y : DataW H × List MemPlace} (hw : Small 25 y.1) (h : DataW.trod enc Try.prog w 0 sp held fuel 25 cs = some y) : ∃ r, RNo T0 w cs r := by
  obtain ⟨xs, n, _, rfl, hl, hx, hg⟩ := DataW.trod_struct Try.underlying25 h
  obtain ⟨c0, c1, c2, c3, rfl⟩ := len4 (hl.trans c_note)
  obtain ⟨y0, y1, y2, y3, rfl⟩ := len4 hx
  · · have g0 := hg 0 _ rfl
      have g1 := hg 1 _ rfl
      have g2 := hg 2 _ rfl
      have g3 := hg 3 _ rfl
      simp [c_int, c_ints, c_deeds] at g0 g1 g2 g3
      obtain ⟨a, e0, i0⟩ := o_int Try.underlying3 g0
      obtain ⟨b, e1, i1⟩ := o_int Try.underlying3 g1
      obtain ⟨v, l, e2, i2⟩ := o_ints g2
      obtain ⟨u, q, e3, i3⟩ := o_deeds (small_part Try.underlying25 hw 3 _ _ rfl rfl) g3
      simp at e0 e1 e2 e3
      exact ⟨⟨a, b, l, q⟩, v, u, by rw [e0, e1, e2, e3], i0, i1, i2, i3⟩
end
section
variable {H : Type} {enc : TypeId × Value → H} {w : World} {sp : Nat → Bool} {held : Bool} {b : Nat} {r : Reach} {v : Value} {d : DataW H} {p : List MemPlace}
end
end Go.Proofs.Ytiladkinndgeaaa
/- Arguments as they come in: relays. -/
namespace Go.Proofs.Ytiladkinndgeaaa
open Go Go.RowKit Go.ChangeShapes Go.WideShapes Go.Deep Cp
section
variable {H : Type} {enc : TypeId × Value → H} {w : World} {sp : Nat → Bool} {held : Bool} {fuel : Nat}
theorem o_notes {cs : List Value} {y : DataW H × List MemPlace} (hw : Small 36 y.1) (h : DataW.trod enc Try.prog w 0 sp held fuel 36 cs = some y) : ∃ v l, cs = [v] ∧ RSl RNo 4 T0 w v l :=
  o_slS (by omega) Try.underlying36 c_note (fun _ _ _ _ hs h => o_note hs h) hw h
end
section
variable {H : Type} {enc : TypeId × Value → H} {w : World} {sp : Nat → Bool} {held : Bool} {b : Nat} {r : Reach} {v : Value} {d : DataW H} {p : List MemPlace}
set_option maxRecDepth 100000 in
theorem in_notes (hv : Value.okWide Try.prog w r b 36 v) (hw : Small 36 d) (h : DataW.Trod enc Try.prog w 0 sp held 36 v d p) : ∃ l, RSl RNo 4 T0 w v l := by
  obtain ⟨a0, len0, cap0, rfl⟩ := okWide_slice Try.underlying36 hv
  obtain ⟨fuel, hf⟩ := h
  obtain ⟨u, l, e, hx⟩ := o_notes hw hf
  simp [Value.cells] at e
  subst e
  exact ⟨l, hx⟩
end
end Go.Proofs.Ytiladkinndgeaaa
