/- Lists of numbers: as they lie; is there a bad one? -/
import Derived.Test.YtghfmgndddjofaaE2
set_option linter.unusedVariables false
set_option linter.unusedSimpArgs false
namespace Go.Proofs.Ytghfmgndddjofaa
open Go Go.RowKit Go.BigFrame Cp

def badI (n : Int) : Bool := !inB n 0 500
theorem int_at {F : Nat → Prop} {w : World} {a : Option Addr} {n cap : Nat} {q : List Int} (h : RSl RInt 1 F w (.slice a n cap) q) {i : Nat} (hi : i < n) :
    ∃ b o x, a = some ⟨b, o, none⟩ ∧ b < w.heap.size ∧ q[i]? = some x ∧ I64 x ∧ w.cell? ⟨b, o + i, none⟩ = some (.int .i64 x) := by
  obtain ⟨b, o, x, cs, e1, e2, e3, _, e4, ⟨rfl, i1⟩⟩ := h.at_ hi
  exact ⟨b, o, x, e1, e2, e3, i1, by simpa using e4 0 _ rfl⟩
theorem withinW_any (n a b : Int) (w : World) : Calls Try.prog 74 #[.int .i64 n, .int .i64 a, .int .i64 b] w fun e w' => e = .returned (.bool (inB n a b)) ∧ w = w' := by
  go_enter Try.func74, Try.ntmps74
  go_wp2
  all_goals go_ret
  all_goals first | exact ⟨rb (inB_no ‹_›), rfl⟩ | exact ⟨rb (inB_yes ‹_›), rfl⟩
theorem badW_any (n : Int) (w : World) : Calls Try.prog 75 #[.int .i64 n] w fun e w' => e = .returned (.bool (badI n)) ∧ w = w' := by
  go_enter Try.func75, Try.ntmps75
  go_wp2_with (go_at_call 74; refine (withinW_any _ _ _ _).mono ?_; rintro e w' ⟨rfl, rfl⟩)
  go_ret
  exact ⟨rfl, rfl⟩
theorem badS_any (n : Int) (w : World) : Calls Try.prog 58 #[.int .i64 n] w fun e w' => e = .returned (.bool (badI n)) ∧ w = w' := by
  by_cases h : n < 0
  · have e : badI n = true := by unfold badI inB; simp; omega
    rw [e]
    have t1 : decide (n < 0) = true := decide_eq_true h
    go_enter Try.func58, Try.ntmps58
    go_wp2
    go_ret
    exact ⟨rfl, rfl⟩
  · have t1 : decide (n < 0) = false := decide_eq_false h
    have e : badI n = decide (500 < n) := by
      unfold badI inB
      by_cases h2 : 500 < n
      · rw [decide_eq_true h2]; simp; omega
      · rw [decide_eq_false h2]; simp; omega
    rw [e]
    go_enter Try.func58, Try.ntmps58
    go_wp2
    go_ret
    exact ⟨rfl, rfl⟩

set_option maxRecDepth 100000 in
theorem idxIntW_any {F : Nat → Prop} {w : World} {v : Value} {l : List Int} (h : RSl RInt 1 F w v l) :
    Calls Try.prog 105 #[v, .func (.func 75) #[] #[]] w (IsIdx (l.any badI) w) := by
  obtain ⟨a1, n1, c1, rfl⟩ := h.slice
  obtain ⟨rfl, k1, k1'⟩ := h.len
  unfold maxLen at k1'
  have q1 : l.length ≤ 9223372036854775807 := by omega
  clear k1 k1'
  have HL := Lib.hid h
  clear h
  go_enter Try.func105, Try.ntmps105
  go_wp2
  go_loopw [8] (fun i wr => ∃ k : Nat, k ≤ l.length ∧ i = .int .i64 k ∧ Hid ((l.take k).any badI = false) ∧ Ext w wr) (fun i _ => l.length - (intOf i).toNat)
  case atStart => exact ⟨0, by omega, rfl, Lib.hid (by simp), ext_refl _⟩
  case round =>
    obtain ⟨k, hk1, rfl, ho, hx⟩ := hrel
    have HX := Lib.hid hx
    clear hx
    by_cases h1 : k < l.length
    · obtain ⟨b1, o1, x1, rfl, hb1, e1, _, ca⟩ := int_at (HL.out.ext gInt HX.out) h1
      have HA := Lib.hid (anyp_step (p := badI) e1)
      clear e1 hb1
      cases g1 : badI x1 with
      | true =>
        have HC := Lib.hid (anyp_of_take (k := k + 1) (by rw [HA.out, ho.out, g1]; rfl))
        go_wp2_with (go_at_call 75; refine (badW_any _ _).mono ?_; rintro e w1 ⟨rfl, rfl⟩)
        go_ret
        exact ⟨k, by rw [HC.out]; simp, rfl, HX.out⟩
      | false =>
        have HD := Lib.hid (show (l.take (k + 1)).any badI = false by rw [HA.out, ho.out, g1]; rfl)
        go_wp2_with (go_at_call 75; refine (badW_any _ _).mono ?_; rintro e w1 ⟨rfl, rfl⟩)
        go_roundw
        case rel => exact ⟨k + 1, by omega, by go_num, HD, HX.out⟩
        case measure => simp [intOf]; omega
    · have hk : k = l.length := by omega
      subst hk
      have ho' := ho.out
      rw [List.take_of_length_le (Nat.le_refl _)] at ho'
      have HO := Lib.hid ho'
      clear ho ho'
      go_wp2
      go_ret
      exact ⟨-1, by rw [HO.out]; rfl, rfl, HX.out⟩
theorem containsIntW_any {F : Nat → Prop} {w : World} {v : Value} {l : List Int} (h : RSl RInt 1 F w v l) :
    Calls Try.prog 57 #[v, .func (.func 75) #[] #[]] w fun e w' => e = .returned (.bool (l.any badI)) ∧ Ext w w' := by
  have H := Lib.hid (idxIntW_any h)
  obtain ⟨a1, n1, c1, rfl⟩ := h.slice
  clear h
  go_enter Try.func57, Try.ntmps57
  go_wp2_with (go_at_call 105; refine H.out.mono ?_; rintro e w1 ⟨n, hn, rfl, hx1⟩; have HN := Lib.hid hn; clear hn)
  go_ret
  exact ⟨rb HN.out, hx1⟩

set_option maxRecDepth 100000 in
theorem idxIntS_any {F : Nat → Prop} {w : World} {v : Value} {l : List Int} (h : RSl RInt 1 F w v l) :
    Calls Try.prog 105 #[v, .func (.func 58) #[] #[]] w (IsIdx (l.any badI) w) := by
  obtain ⟨a1, n1, c1, rfl⟩ := h.slice
  obtain ⟨rfl, k1, k1'⟩ := h.len
  unfold maxLen at k1'
  have q1 : l.length ≤ 9223372036854775807 := by omega
  clear k1 k1'
  have HL := Lib.hid h
  clear h
  go_enter Try.func105, Try.ntmps105
  go_wp2
  go_loopw [8] (fun i wr => ∃ k : Nat, k ≤ l.length ∧ i = .int .i64 k ∧ Hid ((l.take k).any badI = false) ∧ Ext w wr) (fun i _ => l.length - (intOf i).toNat)
  case atStart => exact ⟨0, by omega, rfl, Lib.hid (by simp), ext_refl _⟩
  case round =>
    obtain ⟨k, hk1, rfl, ho, hx⟩ := hrel
    have HX := Lib.hid hx
    clear hx
    by_cases h1 : k < l.length
    · obtain ⟨b1, o1, x1, rfl, hb1, e1, _, ca⟩ := int_at (HL.out.ext gInt HX.out) h1
      have HA := Lib.hid (anyp_step (p := badI) e1)
      clear e1 hb1
      cases g1 : badI x1 with
      | true =>
        have HC := Lib.hid (anyp_of_take (k := k + 1) (by rw [HA.out, ho.out, g1]; rfl))
        go_wp2_with (go_at_call 58; refine (badS_any _ _).mono ?_; rintro e w1 ⟨rfl, rfl⟩)
        go_ret
        exact ⟨k, by rw [HC.out]; simp, rfl, HX.out⟩
      | false =>
        have HD := Lib.hid (show (l.take (k + 1)).any badI = false by rw [HA.out, ho.out, g1]; rfl)
        go_wp2_with (go_at_call 58; refine (badS_any _ _).mono ?_; rintro e w1 ⟨rfl, rfl⟩)
        go_roundw
        case rel => exact ⟨k + 1, by omega, by go_num, HD, HX.out⟩
        case measure => simp [intOf]; omega
    · have hk : k = l.length := by omega
      subst hk
      have ho' := ho.out
      rw [List.take_of_length_le (Nat.le_refl _)] at ho'
      have HO := Lib.hid ho'
      clear ho ho'
      go_wp2
      go_ret
      exact ⟨-1, by rw [HO.out]; rfl, rfl, HX.out⟩
theorem containsIntS_any {F : Nat → Prop} {w : World} {v : Value} {l : List Int} (h : RSl RInt 1 F w v l) :
    Calls Try.prog 57 #[v, .func (.func 58) #[] #[]] w fun e w' => e = .returned (.bool (l.any badI)) ∧ Ext w w' := by
  have H := Lib.hid (idxIntS_any h)
  obtain ⟨a1, n1, c1, rfl⟩ := h.slice
  clear h
  go_enter Try.func57, Try.ntmps57
  go_wp2_with (go_at_call 105; refine H.out.mono ?_; rintro e w1 ⟨n, hn, rfl, hx1⟩; have HN := Lib.hid hn; clear hn)
  go_ret
  exact ⟨rb HN.out, hx1⟩
end Go.Proofs.Ytghfmgndddjofaa
