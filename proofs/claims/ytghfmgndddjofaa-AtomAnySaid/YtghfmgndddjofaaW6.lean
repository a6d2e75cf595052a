/- What is wrong with a mark, by the program. -/
import Derived.Test.YtghfmgndddjofaaW5
set_option linter.unusedVariables false
set_option linter.unusedSimpArgs false
namespace Go.Proofs.Ytghfmgndddjofaa
open Go Go.RowKit Cp

theorem badStep_any (x y : Int) (w : World) : Calls Try.prog 130 #[.agg #[.int .i64 x, .int .i64 y]] w fun e w' => e = .returned (.bool (badS (x, y))) ∧ Ext w w' := by
  rw [badS_in]
  cases g1 : inB x 0 200 with
  | false =>
    go_enter Try.func130, Try.ntmps130
    go_wp2_with (first | (go_at_call 110; refine (within_any _ _ _ _).mono ?_; rintro e w1 ⟨rfl, rfl⟩) | (go_at_call 73; refine (site_any _ _).mono ?_; rintro e w1 ⟨rfl, rfl⟩))
    go_ret
    exact ⟨rb (by simp), ext_alloc (ext_refl _) _⟩
  | true =>
    go_enter Try.func130, Try.ntmps130
    go_wp2_with (first | (go_at_call 110; refine (within_any _ _ _ _).mono ?_; rintro e w1 ⟨rfl, rfl⟩) | (go_at_call 73; refine (site_any _ _).mono ?_; rintro e w1 ⟨rfl, rfl⟩))
    go_ret
    exact ⟨rb (by simp), ext_alloc (ext_refl _) _⟩

/-- a place, or -1 -/
def IsIdx (b : Bool) (w : World) (e : Ending) (w' : World) : Prop := ∃ n : Int, decide (0 ≤ n) = b ∧ e = .returned (.int .i64 n) ∧ Ext w w'
/-- a function value that says p of a step -/
def PredS (P : Program) (g : Nat) (p : Stp → Bool) : Prop := ∀ (x y : Int) (W : World), Calls P g #[.agg #[.int .i64 x, .int .i64 y]] W fun e w' => e = .returned (.bool (p (x, y))) ∧ Ext W w'
theorem anyp_step {α : Type} {p : α → Bool} {l : List α} {k : Nat} {s : α} (h : l[k]? = some s) : (l.take (k + 1)).any p = ((l.take k).any p || p s) := by
  obtain ⟨a1, b1⟩ := List.getElem?_eq_some_iff.1 h
  rw [List.take_succ_eq_append_getElem a1, List.any_append, b1]; simp
theorem anyp_of_take {α : Type} {p : α → Bool} {l : List α} {k : Nat} (h : (l.take k).any p = true) : l.any p = true := by
  rw [← List.take_append_drop k l, List.any_append, h]; rfl

set_option maxRecDepth 100000 in
theorem idxStep_any {F : Nat → Prop} {w : World} {v : Value} {l : List Stp} (h : RSl RStp 2 F w v l) :
    Calls Try.prog 144 #[v, .func (.func 130) #[] #[]] w (IsIdx (l.any badS) w) := by
  obtain ⟨a1, n1, c1, rfl⟩ := h.slice
  obtain ⟨rfl, k1, k1'⟩ := h.len
  unfold maxLen at k1'
  have q1 : l.length ≤ 9223372036854775807 := by omega
  clear k1 k1'
  have HL := Lib.hid h
  clear h
  go_enter Try.func144, Try.ntmps144
  go_wp2
  go_loopw [8] (fun i wr => ∃ k : Nat, k ≤ l.length ∧ i = .int .i64 k ∧ Hid ((l.take k).any badS = false) ∧ Ext w wr) (fun i _ => l.length - (intOf i).toNat)
  case atStart => exact ⟨0, by omega, rfl, Lib.hid (by simp), ext_refl _⟩
  case round =>
    obtain ⟨k, hk1, rfl, ho, hx⟩ := hrel
    have HX := Lib.hid hx
    clear hx
    by_cases h1 : k < l.length
    · obtain ⟨b1, o1, x1, y1, rfl, hb1, e1, _, _, ca, cb⟩ := stp_at (HL.out.ext gStp HX.out) h1
      have HA := Lib.hid (anyp_step (p := badS) e1)
      clear e1 hb1
      cases g1 : badS (x1, y1) with
      | true =>
        have HC := Lib.hid (anyp_of_take (k := k + 1) (by rw [HA.out, ho.out, g1]; rfl))
        go_wp2_with (go_at_call 130; refine (badStep_any _ _ _).mono ?_; rintro e w1 ⟨rfl, hx1⟩)
        go_ret
        exact ⟨k, by rw [HC.out]; simp, rfl, ext_call HX.out hx1⟩
      | false =>
        have HD := Lib.hid (show (l.take (k + 1)).any badS = false by rw [HA.out, ho.out, g1]; rfl)
        go_wp2_with (go_at_call 130; refine (badStep_any _ _ _).mono ?_; rintro e w1 ⟨rfl, hx1⟩)
        go_roundw
        case rel => exact ⟨k + 1, by omega, by go_num, HD, ext_call HX.out hx1⟩
        case measure => simp [intOf]; omega
    · have hk : k = l.length := by omega
      subst hk
      have ho' := ho.out
      rw [List.take_of_length_le (Nat.le_refl _)] at ho'
      have HO := Lib.hid ho'
      clear ho ho'
      go_wp2
      go_ret
      exact ⟨-1, by rw [HO.out]; rfl, rfl, HX.out⟩

theorem containsStep_any {F : Nat → Prop} {w : World} {v : Value} {l : List Stp} (h : RSl RStp 2 F w v l) :
    Calls Try.prog 129 #[v, .func (.func 130) #[] #[]] w fun e w' => e = .returned (.bool (l.any badS)) ∧ Ext w w' := by
  have H := Lib.hid (idxStep_any h)
  clear h
  go_enter Try.func129, Try.ntmps129
  go_wp2_with (go_at_call 144; refine H.out.mono ?_; rintro e w1 ⟨n, hn, rfl, hx1⟩; have HN := Lib.hid hn; clear hn)
  go_ret
  exact ⟨rb HN.out, hx1⟩

set_option maxRecDepth 100000 in
set_option maxHeartbeats 800000 in
theorem check_any {F : Nat → Prop} {w : World} {cs : List Value} {m : Mk} (h : RMk F w cs m) :
    Calls Try.prog 95 #[.agg cs.toArray] w fun e w' => e = .returned (.int .i64 (checkM m)) ∧ Ext w w' := by
  obtain ⟨v, rfl, hl, _⟩ := h
  obtain ⟨l, c⟩ := m
  simp only at hl ⊢
  have HCO := Lib.hid (fun (W : World) (hx : Ext w W) => containsStep_any (hl.ext gStp hx))
  obtain ⟨a1, n1, c1, rfl⟩ := hl.slice
  obtain ⟨rfl, k1, k1'⟩ := hl.len
  unfold maxLen at k1'
  have q1 : l.length ≤ 9223372036854775807 := by omega
  clear k1 k1'
  have HL := Lib.hid hl
  clear hl
  by_cases hm : 10 < l.length
  · rw [checkM_many hm]
    go_enter Try.func95, Try.ntmps95
    go_wp2
    go_ret
    exact ⟨rfl, ext_alloc (ext_refl _) _⟩
  by_cases h0 : l.length = 0
  · rw [checkM_nil h0]
    have t1 : ((l.length : Int) == 0) = true := by rw [beq_iff_eq]; omega
    clear h0
    go_enter Try.func95, Try.ntmps95
    go_wp2
    go_ret
    exact ⟨rfl, ext_alloc (ext_refl _) _⟩
  have t1 : ((l.length : Int) == 0) = false := by rw [beq_eq_false_iff_ne]; omega
  have H0 := Lib.hid h0
  have hp : 0 < l.length := by omega
  clear h0
  cases g0 : l.any badS with
  | true =>
    have HC := Lib.hid (checkM_bad (c := c) hm H0.out g0)
    rw [g0] at HCO
    go_enter Try.func95, Try.ntmps95
    go_wp2_with (go_at_call 129; refine (HCO.out _ (ext_alloc (ext_refl _) _)).mono ?_; rintro e w1 ⟨rfl, hx1⟩)
    go_ret
    exact ⟨ri HC.out.symm, ext_call (ext_alloc (ext_refl _) _) hx1⟩
  | false =>
    have HC := Lib.hid (checkM_end (c := c) hm H0.out g0)
    rw [g0] at HCO
    have hlast : l.length - 1 < l.length := by omega
    obtain ⟨b1, o1, x1, y1, rfl, hb1, e1, _, _, ca, cb⟩ := stp_at HL.out hlast
    have HLD := Lib.hid (lastDigit_at e1)
    clear e1
    have HRA := Lib.hid (fun (w1 : World) (hx : Ext w w1) => (hx.cells b1 (o1 + (l.length - 1) * 2) hb1).trans ca)
    clear ca cb
    by_cases hx1 : x1 = 0
    · have t2 : (x1 == 0) = true := by rw [beq_iff_eq]; exact hx1
      have HZ := Lib.hid hx1
      clear hx1
      go_enter Try.func95, Try.ntmps95
      go_wp2_with (first
        | (go_at_call 129; refine (HCO.out _ (ext_alloc (ext_refl _) _)).mono ?_; rintro e w1 ⟨rfl, hx1⟩; have cd := HRA.out w1 (ext_call (ext_alloc (ext_refl _) _) hx1); have hz1 := (hx1.cells w.heap.size 0 (by simp <;> omega)).trans (show _ = some (.slice (some ⟨b1, o1, none⟩) l.length c1) by go_simp); have hz2 := (hx1.cells w.heap.size 1 (by simp <;> omega)).trans (show _ = some (.int .i64 c) by go_simp); have HX1 := Lib.hid hx1; clear hx1)
        | (go_at_call 110; refine (within_any _ _ _ _).mono ?_; rintro e w2 ⟨rfl, rfl⟩))
      go_ret
      exact ⟨ri (by rw [HC.out, if_pos (.inl (HLD.out.trans HZ.out))]), ext_call (ext_alloc (ext_refl _) _) HX1.out⟩
    · have t2 : (x1 == 0) = false := by rw [beq_eq_false_iff_ne]; exact hx1
      have HZ := Lib.hid hx1
      clear hx1
      cases g1 : inB c 1 10000 with
      | false =>
        go_enter Try.func95, Try.ntmps95
        go_wp2_with (first
          | (go_at_call 129; refine (HCO.out _ (ext_alloc (ext_refl _) _)).mono ?_; rintro e w1 ⟨rfl, hx1⟩; have cd := HRA.out w1 (ext_call (ext_alloc (ext_refl _) _) hx1); have hz1 := (hx1.cells w.heap.size 0 (by simp <;> omega)).trans (show _ = some (.slice (some ⟨b1, o1, none⟩) l.length c1) by go_simp); have hz2 := (hx1.cells w.heap.size 1 (by simp <;> omega)).trans (show _ = some (.int .i64 c) by go_simp); have HX1 := Lib.hid hx1; clear hx1)
          | (go_at_call 110; refine (within_any _ _ _ _).mono ?_; rintro e w2 ⟨rfl, rfl⟩))
        go_ret
        exact ⟨ri (by rw [HC.out, if_pos (.inr g1)]), ext_call (ext_alloc (ext_refl _) _) HX1.out⟩
      | true =>
        go_enter Try.func95, Try.ntmps95
        go_wp2_with (first
          | (go_at_call 129; refine (HCO.out _ (ext_alloc (ext_refl _) _)).mono ?_; rintro e w1 ⟨rfl, hx1⟩; have cd := HRA.out w1 (ext_call (ext_alloc (ext_refl _) _) hx1); have hz1 := (hx1.cells w.heap.size 0 (by simp <;> omega)).trans (show _ = some (.slice (some ⟨b1, o1, none⟩) l.length c1) by go_simp); have hz2 := (hx1.cells w.heap.size 1 (by simp <;> omega)).trans (show _ = some (.int .i64 c) by go_simp); have HX1 := Lib.hid hx1; clear hx1)
          | (go_at_call 110; refine (within_any _ _ _ _).mono ?_; rintro e w2 ⟨rfl, rfl⟩))
        go_ret
        exact ⟨ri (by rw [HC.out, if_neg (by rw [HLD.out, g1]; simp [HZ.out])]), ext_call (ext_alloc (ext_refl _) _) HX1.out⟩
end Go.Proofs.Ytghfmgndddjofaa
