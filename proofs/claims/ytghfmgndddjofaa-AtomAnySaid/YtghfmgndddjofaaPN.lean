/- Plain facts on atoms: sorted atoms are what is to be seen of them at each mark; put in whatever order they are the same; what is taken is gone. -/
import Derived.Test.YtghfmgndddjofaaPM
set_option linter.unusedVariables false
set_option linter.unusedSimpArgs false
namespace Go.Proofs.Ytghfmgndddjofaa
open Go Go.RowKit Cp

theorem mnS_comm (x y : UInt8) : mnS x y = mnS y x := by
  unfold mnS
  by_cases h : y < x
  · rw [if_pos h, if_neg (by have := UInt8.lt_iff_toNat_lt.1 h; rw [UInt8.lt_iff_toNat_lt]; omega)]
  · by_cases h2 : x < y
    · rw [if_neg h, if_pos h2]
    · rw [if_neg h, if_neg h2]
      rw [UInt8.lt_iff_toNat_lt] at h h2
      exact UInt8.toNat_inj.1 (by omega)
theorem mnS_toNat (x y : UInt8) : (mnS x y).toNat = min x.toNat y.toNat := by
  unfold mnS
  by_cases h : y < x
  · rw [if_pos h]; rw [UInt8.lt_iff_toNat_lt] at h; omega
  · rw [if_neg h]; rw [UInt8.lt_iff_toNat_lt] at h; omega
theorem mnS_assoc (x y z : UInt8) : mnS (mnS x y) z = mnS x (mnS y z) := by
  apply UInt8.toNat_inj.1
  simp only [mnS_toNat]; omega
theorem mnS_self (x : UInt8) : mnS x x = x := by apply UInt8.toNat_inj.1; rw [mnS_toNat]; omega
/-- two signs, or none, as one -/
def comb : Option UInt8 → Option UInt8 → Option UInt8
  | none, y => y
  | some x, none => some x
  | some x, some y => some (mnS x y)
theorem comb_comm (x y : Option UInt8) : comb x y = comb y x := by
  cases x <;> cases y <;> simp [comb, mnS_comm]
theorem comb_assoc (x y z : Option UInt8) : comb (comb x y) z = comb x (comb y z) := by
  cases x <;> cases y <;> cases z <;> simp [comb, mnS_assoc]
theorem comb_none (x : Option UInt8) : comb x none = x := by cases x <;> rfl
def one (a : At) (x : Mk) : Option UInt8 := if ordM a.1 x = 0 then some a.2 else none
/-- the sign that is to be seen at a mark -/
def look : List At → Mk → Option UInt8
  | [], _ => none
  | a :: r, x => comb (one a x) (look r x)
theorem look_cons (a : At) (r : List At) (x : Mk) : look (a :: r) x = comb (one a x) (look r x) := rfl
theorem one_same {a b : At} {x : Mk} (h : ordM a.1 b.1 = 0) : comb (one a x) (one b x) = one (a.1, mnS a.2 b.2) x := by
  have e : a.1 = b.1 := ordM_zero.1 h
  unfold one
  rw [← e]
  by_cases h2 : ordM a.1 x = 0
  · rw [if_pos h2, if_pos h2, if_pos h2]; rfl
  · rw [if_neg h2, if_neg h2, if_neg h2]; rfl
theorem look_put : ∀ (l : List At) (a : At) (x : Mk), look (putA l a) x = comb (look l x) (one a x)
  | [], a, x => by simp only [putA, look, comb_none]; rfl
  | b :: r, a, x => by
    rw [putA_cons]
    by_cases h1 : ordM b.1 a.1 = 0
    · rw [if_pos h1, look_cons, look_cons, ← one_same h1, comb_assoc, comb_assoc, comb_comm (one a x)]
    · rw [if_neg h1]
      by_cases h2 : ordM b.1 a.1 = 1
      · rw [if_pos h2, look_cons, comb_comm]
      · rw [if_neg h2, look_cons, look_put r a x, look_cons, comb_assoc]
theorem look_merge : ∀ (m l : List At) (x : Mk), look (mergeA l m) x = comb (look l x) (look m x)
  | [], l, x => by simp only [mergeA, List.foldl_nil, look, comb_none]
  | a :: m, l, x => by
    have e : mergeA l (a :: m) = mergeA (putA l a) m := rfl
    rw [e, look_merge m, look_put, look_cons, comb_assoc]
theorem look_none {r : List At} {x : Mk} (h : ∀ b ∈ r, ordM b.1 x ≠ 0) : look r x = none := by
  induction r with
  | nil => rfl
  | cons b r ih =>
    rw [look_cons, ih (fun c hc => h c (by simp [hc]))]
    unfold one
    rw [if_neg (h b (by simp))]; rfl
theorem ordM_self (a : Mk) : ordM a a = 0 := ordM_zero.2 rfl
theorem look_head {a : At} {r : List At} (h : SortedA (a :: r)) : look (a :: r) a.1 = some a.2 := by
  rw [look_cons, look_none (fun b hb => by have := ordM_swap' (sortedA_head h b hb); omega), comb_none]
  unfold one
  rw [if_pos (ordM_self _)]
theorem look_ahead {a : At} {r : List At} {x : Mk} (h : SortedA (a :: r)) (h1 : ordM x a.1 = -1) : look (a :: r) x = none := by
  refine look_none (fun b hb => ?_)
  rcases List.mem_cons.1 hb with rfl | hb
  · have := ordM_swap' h1; omega
  · have := ordM_swap' (ordM_trans h1 (sortedA_head h b hb)); omega
theorem look_eq : ∀ {l m : List At}, SortedA l → SortedA m → (∀ x, look l x = look m x) → l = m
  | [], [], _, _, _ => rfl
  | [], b :: s, _, hm, h => by have := h b.1; rw [look_head hm] at this; simp [look] at this
  | a :: r, [], hl, _, h => by have := h a.1; rw [look_head hl] at this; simp [look] at this
  | a :: r, b :: s, hl, hm, h => by
    rcases ordM_range a.1 b.1 with h1 | h1 | h1
    · have := h a.1; rw [look_head hl, look_ahead hm h1] at this; simp at this
    · have e1 : a.1 = b.1 := ordM_zero.1 h1
      have e2 : a.2 = b.2 := by
        have h2 := h a.1
        rw [look_head hl, e1, look_head hm] at h2
        exact Option.some.inj h2
      have e : a = b := Prod.ext e1 e2
      subst e
      have : r = s := by
        refine look_eq (sortedA_tail hl) (sortedA_tail hm) (fun x => ?_)
        by_cases h2 : ordM a.1 x = 0
        · have e3 : a.1 = x := ordM_zero.1 h2
          subst e3
          rw [look_none (fun b hb => by have := ordM_swap' (sortedA_head hl b hb); omega), look_none (fun b hb => by have := ordM_swap' (sortedA_head hm b hb); omega)]
        · have h3 := h x
          rw [look_cons, look_cons] at h3
          unfold one at h3
          rw [if_neg h2] at h3
          exact h3
      rw [this]
    · have := h b.1; rw [look_head hm, look_ahead hl (ordM_swap h1)] at this; simp at this
theorem merge_comm {l m : List At} (hl : RightA l) (hm : RightA m) : mergeA l m = mergeA m l :=
  look_eq (mergeA_right hl hm.2).1 (mergeA_right hm hl.2).1 (fun x => by rw [look_merge, look_merge, comb_comm])
theorem merge_assoc {l m n : List At} (hl : RightA l) (hm : RightA m) (hn : RightA n) : mergeA l (mergeA m n) = mergeA (mergeA l m) n :=
  look_eq (mergeA_right hl (mergeA_right hm hn.2).2).1 (mergeA_right (mergeA_right hl hm.2) hn.2).1 (fun x => by rw [look_merge, look_merge, look_merge, look_merge, comb_assoc])
theorem takeA_len (l : List At) (ms : List Mk) : (takeA l ms).length ≤ l.length := List.length_filter_le _ _
theorem hasM_take {l : List At} {ms : List Mk} {a : At} (h : a ∈ l) : hasM (takeA l ms) a.1 = !hasG ms a.1 := by
  cases hg : hasG ms a.1 with
  | true =>
    unfold hasM
    rw [Bool.not_true, List.any_eq_false]
    intro b hb
    have hb2 := (List.mem_filter.1 hb).2
    have : ordM b.1 a.1 ≠ 0 := fun e => by rw [ordM_zero.1 e, hg] at hb2; simp at hb2
    simpa using this
  | false =>
    unfold hasM
    rw [Bool.not_false, List.any_eq_true]
    exact ⟨a, List.mem_filter.2 ⟨h, by simp [hg]⟩, by simpa using ordM_self a.1⟩
end Go.Proofs.Ytghfmgndddjofaa
