/- Is an atom's mark among marks that are to go: the function values that atom.Take hands on. -/
import Derived.Test.YtghfmgndddjofaaA3
import Derived.Test.YtghfmgndddjofaaA4
import Derived.Test.YtghfmgndddjofaaW6
import Derived.Test.YtghfmgndddjofaaPM
import Derived.Test.YtghfmgndddjofaaLate2
set_option linter.unusedVariables false
set_option linter.unusedSimpArgs false
namespace Go.Proofs.Ytghfmgndddjofaa
open Go Go.RowKit Go.BigFrame Cp

/-- a mark in a box of its own -/
def BoxMk (g : Nat) (m : Mk) (w : World) : Prop := ∃ a n c, w.cell? ⟨g, 0, none⟩ = some (.slice a n c) ∧ w.cell? ⟨g, 1, none⟩ = some (.int .i64 m.2) ∧ RMk (fun _ => True) w [.slice a n c, .int .i64 m.2] m ∧ g < w.heap.size
theorem boxMk_ext {g : Nat} {m : Mk} {w W : World} (h : BoxMk g m w) (hx : Ext w W) : BoxMk g m W := by
  obtain ⟨a, n, c, h0, h1, h2, h3⟩ := h
  exact ⟨a, n, c, (hx.cells _ _ h3).trans h0, (hx.cells _ _ h3).trans h1, gMk.ext h2 hx, Nat.lt_of_lt_of_le h3 hx.size⟩
/-- marks in a box of their own -/
def BoxMs (g : Nat) (ms : List Mk) (w : World) : Prop := ∃ a n c, w.cell? ⟨g, 0, none⟩ = some (.slice a n c) ∧ RSl RMk 2 (fun _ => True) w (.slice a n c) ms ∧ g < w.heap.size
theorem boxMs_ext {g : Nat} {ms : List Mk} {w W : World} (h : BoxMs g ms w) (hx : Ext w W) : BoxMs g ms W := by
  obtain ⟨a, n, c, h0, h1, h3⟩ := h
  exact ⟨a, n, c, (hx.cells _ _ h3).trans h0, h1.ext gMk hx, Nat.lt_of_lt_of_le h3 hx.size⟩
theorem beq0 (n : Int) : (n == 0) = decide (n = 0) := by
  by_cases h : n = 0
  · subst h; rfl
  · rw [decide_eq_false h]; simpa using h
set_option maxRecDepth 100000 in
set_option maxHeartbeats 4000000 in
theorem take11_any {F : Nat → Prop} {w : World} {cs : List Value} {x m : Mk} {g : Nat} (h : RMk F w cs x) (hg : BoxMk g m w) :
    Calls Try.prog 85 #[.agg cs.toArray, .pointer (some ⟨g, 0, none⟩)] w fun e w' => e = .returned (.bool (decide (ordM x m = 0))) ∧ Ext w w' := by
  obtain ⟨ga, gn, gc, g0, g1, g2, g3⟩ := hg
  have HO := Lib.hid (fun (W : World) (hx : Ext w W) => order_any (gMk.ext h hx) (gMk.ext g2 hx))
  obtain ⟨v, rfl, hl, _⟩ := h
  obtain ⟨a, n, c, rfl⟩ := hl.slice
  have hgn : ¬ g = w.heap.size := by omega
  clear hl g2
  rw [← beq0]
  go_enter Try.func85, Try.ntmps85
  go_wp2_with (first
    | (go_at_call 86; go_must ((with_reducible refine (HO.out _ (by repeat (first | (with_reducible exact ext_refl _) | (with_reducible assumption) | (with_reducible refine ext_drew ?_) | (with_reducible refine ext_drewN ?_ _) | (with_reducible refine ext_alloc ?_ _) | (with_reducible refine ext_set ?_ (by first | omega | (simp <;> omega)) _) | (with_reducible refine ext_trans ?_ (by with_reducible assumption))))).mono ?_); rintro e w1 ⟨rfl, hx1⟩; skip)))
  go_ret
  exact ⟨rfl, (by repeat (first | (with_reducible exact ext_refl _) | (with_reducible assumption) | (with_reducible refine ext_drew ?_) | (with_reducible refine ext_drewN ?_ _) | (with_reducible refine ext_alloc ?_ _) | (with_reducible refine ext_set ?_ (by first | omega | (simp <;> omega)) _) | (with_reducible refine ext_trans ?_ (by with_reducible assumption))))⟩
set_option maxRecDepth 100000 in
set_option maxHeartbeats 4000000 in
theorem idxMk_any {F : Nat → Prop} {w : World} {v : Value} {ms : List Mk} {m : Mk} {g : Nat} (h : RSl RMk 2 F w v ms) (hg : BoxMk g m w) :
    Calls Try.prog 121 #[v, .func (.func 85) #[] #[.pointer (some ⟨g, 0, none⟩)]] w (IsIdx (hasG ms m) w) := by
  obtain ⟨a1, n1, c1, rfl⟩ := h.slice
  obtain ⟨rfl, k1, k1'⟩ := h.len
  unfold maxLen at k1'
  have q1 : ms.length ≤ 9223372036854775807 := by omega
  clear k1 k1'
  have HL := Lib.hid h
  have HG := Lib.hid hg
  obtain ⟨p, hp⟩ : ∃ p : Mk → Bool, p = fun x => decide (ordM x m = 0) := ⟨_, rfl⟩
  have e : hasG ms m = ms.any p := by rw [hp]; rfl
  rw [e]
  have HP := Lib.hid (fun (W : World) (hx : Ext w W) (F' : Nat → Prop) (cs : List Value) (x : Mk) (h' : RMk F' W cs x) => (show Calls Try.prog 85 #[.agg cs.toArray, .pointer (some ⟨g, 0, none⟩)] W (fun e w' => e = .returned (.bool (p x)) ∧ Ext W w') by rw [hp]; exact take11_any h' (boxMk_ext hg hx)))
  clear h hg hp e
  go_enter Try.func121, Try.ntmps121
  go_wp2
  go_loopw [8] (fun i wr => ∃ k : Nat, k ≤ ms.length ∧ i = .int .i64 k ∧ Hid ((ms.take k).any p = false) ∧ Ext w wr) (fun i _ => ms.length - (intOf i).toNat)
  case atStart => exact ⟨0, by omega, rfl, Lib.hid (by simp), ext_refl _⟩
  case round =>
    obtain ⟨k, hk1, rfl, ho, hx⟩ := hrel
    have HX := Lib.hid hx
    clear hx
    by_cases h1 : k < ms.length
    · obtain ⟨b1, o1, p1, d1, ap, cp, rfl, hb1, e1, ick, hpp, y0, y1⟩ := mark_at (HL.out.ext gMk HX.out) h1
      have HA := Lib.hid (anyp_step (p := p) e1)
      have HC0 := Lib.hid (fun (W : World) (hx : Ext wr W) => HP.out W (ext_trans HX.out hx) _ _ _ (rmk_of' (hpp.ext gStp hx) ick))
      clear e1 hb1 hpp ick
      cases g1 : p (p1, d1) with
      | true =>
        have HC := Lib.hid (anyp_of_take (k := k + 1) (by rw [HA.out, ho.out, g1]; rfl))
        rw [g1] at HC0
        go_wp2_with (go_at_call 85; go_must ((with_reducible refine (HC0.out _ (by repeat (first | (with_reducible exact ext_refl _) | (with_reducible assumption) | (with_reducible refine ext_drew ?_) | (with_reducible refine ext_drewN ?_ _) | (with_reducible refine ext_alloc ?_ _) | (with_reducible refine ext_set ?_ (by first | omega | (simp <;> omega)) _) | (with_reducible refine ext_trans ?_ (by with_reducible assumption))))).mono ?_); rintro e w1 ⟨rfl, hx1⟩; skip))
        go_ret
        exact ⟨k, by rw [HC.out]; simp, rfl, ext_trans HX.out hx1⟩
      | false =>
        have HD := Lib.hid (show (ms.take (k + 1)).any p = false by rw [HA.out, ho.out, g1]; rfl)
        rw [g1] at HC0
        go_wp2_with (go_at_call 85; go_must ((with_reducible refine (HC0.out _ (by repeat (first | (with_reducible exact ext_refl _) | (with_reducible assumption) | (with_reducible refine ext_drew ?_) | (with_reducible refine ext_drewN ?_ _) | (with_reducible refine ext_alloc ?_ _) | (with_reducible refine ext_set ?_ (by first | omega | (simp <;> omega)) _) | (with_reducible refine ext_trans ?_ (by with_reducible assumption))))).mono ?_); rintro e w1 ⟨rfl, hx1⟩; skip))
        go_roundw
        case rel => exact ⟨k + 1, by omega, by go_num, HD, ext_trans HX.out hx1⟩
        case measure => simp [intOf]; omega
    · have hk : k = ms.length := by omega
      subst hk
      have ho' := ho.out
      rw [List.take_of_length_le (Nat.le_refl _)] at ho'
      have HO := Lib.hid ho'
      clear ho ho'
      go_wp2
      go_ret
      exact ⟨-1, by rw [HO.out]; rfl, rfl, HX.out⟩
set_option maxRecDepth 100000 in
set_option maxHeartbeats 4000000 in
theorem containsMk_any {F : Nat → Prop} {w : World} {v : Value} {ms : List Mk} {m : Mk} {g : Nat} (h : RSl RMk 2 F w v ms) (hg : BoxMk g m w) :
    Calls Try.prog 84 #[v, .func (.func 85) #[] #[.pointer (some ⟨g, 0, none⟩)]] w fun e w' => e = .returned (.bool (hasG ms m)) ∧ Ext w w' := by
  have H := Lib.hid (idxMk_any h hg)
  clear h hg
  go_enter Try.func84, Try.ntmps84
  go_wp2_with (go_at_call 121; refine H.out.mono ?_; rintro e w1 ⟨n, hn, rfl, hx1⟩; have HN := Lib.hid hn; clear hn)
  go_ret
  exact ⟨rb HN.out, hx1⟩
set_option maxRecDepth 100000 in
set_option maxHeartbeats 4000000 in
theorem take1_any {F : Nat → Prop} {w : World} {cs : List Value} {ms : List Mk} {a : At} {b : Nat} (h : RAt F w cs a) (hb : BoxMs b ms w) :
    Calls Try.prog 83 #[.agg cs.toArray, .pointer (some ⟨b, 0, none⟩)] w fun e w' => e = .returned (.bool (hasG ms a.1)) ∧ Ext w w' := by
  obtain ⟨ga, gn, gc, g0, g2, g3⟩ := hb
  obtain ⟨v, rfl, hl, hi⟩ := h
  obtain ⟨⟨p, d⟩, s⟩ := a
  simp only at hl hi ⊢
  obtain ⟨aa, n, c, rfl⟩ := hl.slice
  have HCN := Lib.hid (fun (W : World) (hx : Ext w W) (r : Nat) (h0 : W.cell? ⟨r, 0, none⟩ = some (.slice aa n c)) (h1 : W.cell? ⟨r, 1, none⟩ = some (.int .i64 d)) (hr : r < W.heap.size) =>
    containsMk_any (m := (p, d)) (g2.ext gMk hx) ⟨aa, n, c, h0, h1, rmk_of' ((RSl.more gStp (fun _ _ _ => trivial) hl).ext gStp hx) hi, hr⟩)
  have hgn : ¬ b = w.heap.size := by omega
  clear hl g2
  go_enter Try.func83, Try.ntmps83
  go_wp2_with (first
    | (go_at_call 84; go_must ((with_reducible refine (HCN.out _ (by repeat (first | (with_reducible exact ext_refl _) | (with_reducible assumption) | (with_reducible refine ext_drew ?_) | (with_reducible refine ext_drewN ?_ _) | (with_reducible refine ext_alloc ?_ _) | (with_reducible refine ext_set ?_ (by first | omega | (simp <;> omega)) _) | (with_reducible refine ext_trans ?_ (by with_reducible assumption)))) w.heap.size (by go_simp) (by go_simp) (by first | omega | (simp <;> omega))).mono ?_); rintro e w1 ⟨rfl, hx1⟩; skip)))
  go_ret
  exact ⟨rfl, (by repeat (first | (with_reducible exact ext_refl _) | (with_reducible assumption) | (with_reducible refine ext_drew ?_) | (with_reducible refine ext_drewN ?_ _) | (with_reducible refine ext_alloc ?_ _) | (with_reducible refine ext_set ?_ (by first | omega | (simp <;> omega)) _) | (with_reducible refine ext_trans ?_ (by with_reducible assumption))))⟩
end Go.Proofs.Ytghfmgndddjofaa
