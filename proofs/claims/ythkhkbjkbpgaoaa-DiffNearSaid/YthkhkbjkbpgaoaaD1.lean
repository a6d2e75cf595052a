/- Signs of a text, and places in one. -/
import Derived.Test.YthkhkbjkbpgaoaaW1
set_option linter.unusedVariables false
set_option linter.unusedSimpArgs false
namespace Go.Proofs.Ythkhkbjkbpgaoaa
open Go Go.RowKit Cp

theorem sgn_in (c : UInt8) : signB c = inB (c.toNat : Int) 32 126 := rfl
theorem byte_lt (c : UInt8) : (c.toNat : Int) < 256 := by have := c.toNat_lt; omega
theorem sign_any (c : UInt8) (w : World) : Calls Try.prog 85 #[.int .u8 (c.toNat : Int)] w fun e w' => e = .returned (.bool (signB c)) ∧ w = w' := by
  rw [sgn_in]
  have h256 := byte_lt c
  generalize (c.toNat : Int) = n at *
  go_enter Try.func85, Try.ntmps85
  go_wp2
  all_goals go_ret
  all_goals first | exact ⟨rb (inB_yes ‹_›), rfl⟩ | exact ⟨rb (inB_no ‹_›), rfl⟩
theorem isSign_any (c : UInt8) (w : World) : Calls Try.prog 55 #[.int .u8 (c.toNat : Int)] w fun e w' => e = .returned (.bool (signB c)) ∧ w = w' := by
  rw [sgn_in]
  have h256 := byte_lt c
  have h0 : 0 ≤ (c.toNat : Int) := by omega
  generalize (c.toNat : Int) = n at *
  go_enter Try.func55, Try.ntmps55
  go_wp2_with (go_at_call 61; refine (between_any _ _ _ _).mono ?_; rintro e w' ⟨rfl, rfl⟩)
  go_ret
  exact ⟨rfl, rfl⟩

theorem signsB_take {s : ByteArray} {k : Nat} (hk : k < s.size) (h : signsB (s.data.toList.take k) = true) (h2 : signB s[k] = true) : signsB (s.data.toList.take (k + 1)) = true := by
  rw [List.take_succ_eq_append_getElem (by simpa using hk)]
  unfold signsB at *
  rw [List.all_append, h]
  simp only [Bool.true_and, List.all_cons, List.all_nil, Bool.and_true]
  exact h2
theorem signsB_bad {s : ByteArray} {k : Nat} (hk : k < s.size) (h2 : signB s[k] = false) : false = signsB s.data.toList := by
  symm
  unfold signsB
  rw [List.all_eq_false]
  exact ⟨s[k], by rw [List.mem_iff_getElem]; exact ⟨k, by simpa using hk, rfl⟩, by simp [h2]⟩
theorem signsB_end {s : ByteArray} {k : Nat} (hk : s.size ≤ k) (h : signsB (s.data.toList.take k) = true) : true = signsB s.data.toList := by
  rw [List.take_of_length_le (by simpa using hk)] at h
  exact h.symm

theorem signs_any (s : ByteArray) (w : World) (hs : s.size ≤ maxLen) : Calls Try.prog 53 #[.string s] w fun e w' => e = .returned (.bool (signsB s.data.toList)) ∧ w = w' := by
  unfold maxLen at hs
  go_enter Try.func53, Try.ntmps53
  go_wp2
  go_loop [6] (fun i => ∃ k : Nat, k ≤ s.size ∧ i = .int .i64 k ∧ Hid (signsB (s.data.toList.take k) = true)) (fun i => s.size - (intOf i).toNat)
  case atStart => exact ⟨0, Nat.zero_le _, rfl, rfl⟩
  case round =>
    obtain ⟨k, hk, rfl, h⟩ := hrel
    by_cases hlt : k < s.size
    · cases g : signB s[k] with
      | true =>
        go_wp2_with (go_at_call 85; ((with_reducible refine (sign_any _ _).mono ?_); rintro e w' ⟨rfl, rfl⟩))
        go_round
        case rel => exact ⟨k + 1, by omega, by go_num, signsB_take hlt h.out g⟩
        case measure => simp [intOf]; omega
      | false =>
        go_wp2_with (go_at_call 85; ((with_reducible refine (sign_any _ _).mono ?_); rintro e w' ⟨rfl, rfl⟩))
        go_ret
        exact ⟨rb (signsB_bad hlt g), rfl⟩
    · go_wp2
      go_ret
      exact ⟨rb (signsB_end (by omega) h.out), rfl⟩
theorem areSigns_any (s : ByteArray) (w : World) (hs : s.size ≤ maxLen) : Calls Try.prog 19 #[.string s] w fun e w' => e = .returned (.bool (signsB s.data.toList)) ∧ w = w' := by
  unfold maxLen at hs
  go_enter Try.func19, Try.ntmps19
  go_wp2
  go_loop [3] (fun i => ∃ k : Nat, k ≤ s.size ∧ i = .int .i64 k ∧ Hid (signsB (s.data.toList.take k) = true)) (fun i => s.size - (intOf i).toNat)
  case atStart => exact ⟨0, Nat.zero_le _, rfl, rfl⟩
  case round =>
    obtain ⟨k, hk, rfl, h⟩ := hrel
    by_cases hlt : k < s.size
    · cases g : signB s[k] with
      | true =>
        go_wp2_with (go_at_call 55; ((with_reducible refine (isSign_any _ _).mono ?_); rintro e w' ⟨rfl, rfl⟩))
        go_round
        case rel => exact ⟨k + 1, by omega, by go_num, signsB_take hlt h.out g⟩
        case measure => simp [intOf]; omega
      | false =>
        go_wp2_with (go_at_call 55; ((with_reducible refine (isSign_any _ _).mono ?_); rintro e w' ⟨rfl, rfl⟩))
        go_ret
        exact ⟨rb (signsB_bad hlt g), rfl⟩
    · go_wp2
      go_ret
      exact ⟨rb (signsB_end (by omega) h.out), rfl⟩

/-- what is wrong with a plain text -/
def textE (s : Tx) : Int := if 300 < s.length then 2 else if signsB s = false then 3 else 0
theorem text_any (s : ByteArray) (w : World) (hs : s.size ≤ maxLen) : Calls Try.prog 82 #[.string s] w fun e w' => e = .returned (.int .i64 (textE s.data.toList)) ∧ w = w' := by
  have hl : s.data.toList.length = s.size := by simp
  have hs' := hs
  unfold maxLen at hs
  by_cases h : 300 < s.size
  · have e1 : textE s.data.toList = 2 := by unfold textE; rw [if_pos (by omega)]
    rw [e1]
    clear e1 hl
    go_enter Try.func82, Try.ntmps82
    go_wp2_with fail
    go_ret
    exact ⟨rfl, rfl⟩
  · cases g : signsB s.data.toList with
    | true =>
      have e1 : textE s.data.toList = 0 := by unfold textE; rw [if_neg (by omega), g]; rfl
      rw [e1]
      clear e1 hl
      go_enter Try.func82, Try.ntmps82
      go_wp2_with (go_at_call 53; ((with_reducible refine (signs_any _ _ hs').mono ?_); rintro e w' ⟨rfl, rfl⟩))
      go_ret
      exact ⟨rfl, rfl⟩
    | false =>
      have e1 : textE s.data.toList = 3 := by unfold textE; rw [if_neg (by omega), g]; rfl
      rw [e1]
      clear e1 hl
      go_enter Try.func82, Try.ntmps82
      go_wp2_with (go_at_call 53; ((with_reducible refine (signs_any _ _ hs').mono ?_); rintro e w' ⟨rfl, rfl⟩))
      go_ret
      exact ⟨rfl, rfl⟩

theorem inside_any (a m n : Int) (w : World) (ha : I64 a) (hm : I64 m) (hn : 0 ≤ n ∧ n ≤ 1000) :
    Calls Try.prog 83 #[.int .i64 a, .int .i64 m, .int .i64 n] w fun e w' => e = .returned (.bool (insideB a m n)) ∧ w = w' := by
  obtain ⟨a1, a2⟩ := ha
  obtain ⟨m1, m2⟩ := hm
  obtain ⟨n1, n2⟩ := hn
  by_cases h1 : 0 ≤ a
  · by_cases h2 : 0 ≤ m
    · by_cases h3 : a ≤ n
      · have e1 : insideB a m n = decide (m ≤ n - a) := by unfold insideB; rw [decide_eq_true h1, decide_eq_true h2, decide_eq_true h3]; rfl
        rw [e1]; clear e1
        go_enter Try.func83, Try.ntmps83
        go_wp2
        go_ret
        exact ⟨rfl, rfl⟩
      · have e1 : insideB a m n = false := by unfold insideB; rw [decide_eq_false h3]; simp
        rw [e1]; clear e1
        go_enter Try.func83, Try.ntmps83
        go_wp2
        go_ret
        exact ⟨rfl, rfl⟩
    · have e1 : insideB a m n = false := by unfold insideB; rw [decide_eq_false h2]; simp
      rw [e1]; clear e1
      go_enter Try.func83, Try.ntmps83
      go_wp2
      go_ret
      exact ⟨rfl, rfl⟩
  · have e1 : insideB a m n = false := by unfold insideB; rw [decide_eq_false h1]; simp
    rw [e1]; clear e1
    go_enter Try.func83, Try.ntmps83
    go_wp2
    go_ret
    exact ⟨rfl, rfl⟩
theorem isInside_any (a m n : Int) (w : World) (ha : I64 a) (hm : I64 m) (hn : 0 ≤ n ∧ n ≤ 1000) :
    Calls Try.prog 84 #[.int .i64 a, .int .i64 m, .int .i64 n] w fun e w' => e = .returned (.bool (insideB a m n)) ∧ w = w' := by
  obtain ⟨a1, a2⟩ := ha
  obtain ⟨m1, m2⟩ := hm
  obtain ⟨n1, n2⟩ := hn
  cases h1 : inB a 0 n with
  | true =>
    cases h2 : inB m 0 n with
    | true =>
      have b1 : 0 ≤ a ∧ a ≤ n := by unfold inB at h1; simpa using h1
      have b2 : 0 ≤ m ∧ m ≤ n := by unfold inB at h2; simpa using h2
      obtain ⟨b3, b4⟩ := b1
      obtain ⟨b5, b6⟩ := b2
      have e1 : insideB a m n = decide (a + m ≤ n) := by unfold insideB; rw [decide_eq_true b3, decide_eq_true b4, decide_eq_true b5, Bool.eq_iff_iff]; simp; omega
      rw [e1]; clear e1
      go_enter Try.func84, Try.ntmps84
      go_wp2_with (go_at_call 61; refine (between_any _ _ _ _).mono ?_; rintro e w' ⟨rfl, rfl⟩)
      go_ret
      exact ⟨rfl, rfl⟩
    | false =>
      have e1 : insideB a m n = false := by unfold inB at h1 h2; unfold insideB; simp at *; omega
      rw [e1]; clear e1
      go_enter Try.func84, Try.ntmps84
      go_wp2_with (go_at_call 61; refine (between_any _ _ _ _).mono ?_; rintro e w' ⟨rfl, rfl⟩)
      go_ret
      exact ⟨rfl, rfl⟩
  | false =>
    have e1 : insideB a m n = false := by unfold inB at h1; unfold insideB; simp at *; omega
    rw [e1]; clear e1
    go_enter Try.func84, Try.ntmps84
    go_wp2_with (go_at_call 61; refine (between_any _ _ _ _).mono ?_; rintro e w' ⟨rfl, rfl⟩)
    go_ret
    exact ⟨rfl, rfl⟩
end Go.Proofs.Ythkhkbjkbpgaoaa
