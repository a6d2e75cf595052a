/- Signs of a text. -/
import Derived.Test.YtghfmgndddjofaaW1
set_option linter.unusedVariables false
set_option linter.unusedSimpArgs false
namespace Go.Proofs.Ytghfmgndddjofaa
open Go Go.RowKit Cp

theorem sgn_in (c : UInt8) : signB c = inB (c.toNat : Int) 32 126 := rfl
theorem byte_lt (c : UInt8) : (c.toNat : Int) < 256 := by have := c.toNat_lt; omega
theorem sign_any (c : UInt8) (w : World) : Calls Try.prog 96 #[.int .u8 (c.toNat : Int)] w fun e w' => e = .returned (.bool (signB c)) ∧ w = w' := by
  rw [sgn_in]
  have h256 := byte_lt c
  generalize (c.toNat : Int) = n at *
  go_enter Try.func96, Try.ntmps96
  go_wp2
  all_goals go_ret
  all_goals first | exact ⟨rb (inB_yes ‹_›), rfl⟩ | exact ⟨rb (inB_no ‹_›), rfl⟩
theorem isSign_any (c : UInt8) (w : World) : Calls Try.prog 90 #[.int .u8 (c.toNat : Int)] w fun e w' => e = .returned (.bool (signB c)) ∧ w = w' := by
  rw [sgn_in]
  have h256 := byte_lt c
  have h0 : 0 ≤ (c.toNat : Int) := by omega
  generalize (c.toNat : Int) = n at *
  go_enter Try.func90, Try.ntmps90
  go_wp2_with (go_at_call 54; refine (between_any _ _ _ _).mono ?_; rintro e w' ⟨rfl, rfl⟩)
  go_ret
  exact ⟨rfl, rfl⟩

theorem signsB_take {s : ByteArray} {k : Nat} (hk : k < s.size) (h : signsB (s.data.toList.take k) = true) (h2 : signB s[k] = true) : signsB (s.data.toList.take (k + 1)) = true := by
  rw [List.take_succ_eq_append_getElem (by simpa using hk)]
  unfold signsB at *
  rw [List.all_append, h]
  simp only [Bool.true_and, List.all_cons, List.all_nil, Bool.and_true]
  exact h2
theorem signsB_bad {s : ByteArray} {k : Nat} (hk : k < s.size) (h2 : signB s[k] = false) : false = signsB s.data.toList := by
  symm
  unfold signsB
  rw [List.all_eq_false]
  exact ⟨s[k], by rw [List.mem_iff_getElem]; exact ⟨k, by simpa using hk, rfl⟩, by simp [h2]⟩
theorem signsB_end {s : ByteArray} {k : Nat} (hk : s.size ≤ k) (h : signsB (s.data.toList.take k) = true) : true = signsB s.data.toList := by
  rw [List.take_of_length_le (by simpa using hk)] at h
  exact h.symm

theorem signs_any (s : ByteArray) (w : World) (hs : s.size ≤ maxLen) : Calls Try.prog 134 #[.string s] w fun e w' => e = .returned (.bool (signsB s.data.toList)) ∧ w = w' := by
  unfold maxLen at hs
  go_enter Try.func134, Try.ntmps134
  go_wp2
  go_loop [6] (fun i => ∃ k : Nat, k ≤ s.size ∧ i = .int .i64 k ∧ Hid (signsB (s.data.toList.take k) = true)) (fun i => s.size - (intOf i).toNat)
  case atStart => exact ⟨0, Nat.zero_le _, rfl, rfl⟩
  case round =>
    obtain ⟨k, hk, rfl, h⟩ := hrel
    by_cases hlt : k < s.size
    · cases g : signB s[k] with
      | true =>
        go_wp2_with (go_at_call 96; ((with_reducible refine (sign_any _ _).mono ?_); rintro e w' ⟨rfl, rfl⟩))
        go_round
        case rel => exact ⟨k + 1, by omega, by go_num, signsB_take hlt h.out g⟩
        case measure => simp [intOf]; omega
      | false =>
        go_wp2_with (go_at_call 96; ((with_reducible refine (sign_any _ _).mono ?_); rintro e w' ⟨rfl, rfl⟩))
        go_ret
        exact ⟨rb (signsB_bad hlt g), rfl⟩
    · go_wp2
      go_ret
      exact ⟨rb (signsB_end (by omega) h.out), rfl⟩
theorem areSigns_any (s : ByteArray) (w : World) (hs : s.size ≤ maxLen) : Calls Try.prog 131 #[.string s] w fun e w' => e = .returned (.bool (signsB s.data.toList)) ∧ w = w' := by
  unfold maxLen at hs
  go_enter Try.func131, Try.ntmps131
  go_wp2
  go_loop [3] (fun i => ∃ k : Nat, k ≤ s.size ∧ i = .int .i64 k ∧ Hid (signsB (s.data.toList.take k) = true)) (fun i => s.size - (intOf i).toNat)
  case atStart => exact ⟨0, Nat.zero_le _, rfl, rfl⟩
  case round =>
    obtain ⟨k, hk, rfl, h⟩ := hrel
    by_cases hlt : k < s.size
    · cases g : signB s[k] with
      | true =>
        go_wp2_with (go_at_call 90; ((with_reducible refine (isSign_any _ _).mono ?_); rintro e w' ⟨rfl, rfl⟩))
        go_round
        case rel => exact ⟨k + 1, by omega, by go_num, signsB_take hlt h.out g⟩
        case measure => simp [intOf]; omega
      | false =>
        go_wp2_with (go_at_call 90; ((with_reducible refine (isSign_any _ _).mono ?_); rintro e w' ⟨rfl, rfl⟩))
        go_ret
        exact ⟨rb (signsB_bad hlt g), rfl⟩
    · go_wp2
      go_ret
      exact ⟨rb (signsB_end (by omega) h.out), rfl⟩
end Go.Proofs.Ytghfmgndddjofaa
