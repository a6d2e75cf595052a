/- Plain facts on marks: their order, what is right, and the gap between two of them. No program in sight. -/
set_option linter.unusedVariables false
set_option linter.unusedSimpArgs false
namespace Cp

abbrev Stp := Int × Int
abbrev Mk := List Stp × Int

def cmpI (a b : Int) : Int := if a < b then -1 else if b < a then 1 else 0
def ordS (a b : Stp) : Int := if cmpI a.1 b.1 = 0 then cmpI a.2 b.2 else cmpI a.1 b.1
def ordP : List Stp → List Stp → Int
  | [], [] => 0
  | [], _ :: _ => -1
  | _ :: _, [] => 1
  | a :: as, b :: bs => if ordS a b = 0 then ordP as bs else ordS a b
def ordM (a b : Mk) : Int := if ordP a.1 b.1 = 0 then cmpI a.2 b.2 else ordP a.1 b.1

theorem cmpI_zero {a b : Int} : cmpI a b = 0 ↔ a = b := by unfold cmpI; split <;> (try split) <;> omega
theorem cmpI_anti (a b : Int) : cmpI b a = - cmpI a b := by unfold cmpI; repeat' split
                                                            all_goals omega
theorem cmpI_neg {a b : Int} : cmpI a b = -1 ↔ a < b := by unfold cmpI; split <;> (try split) <;> omega
theorem cmpI_lt {a b : Int} : cmpI a b < 0 ↔ a < b := by unfold cmpI; split <;> (try split) <;> omega
theorem cmpI_pos {a b : Int} : 0 < cmpI a b ↔ b < a := by unfold cmpI; split <;> (try split) <;> omega
theorem cmpI_range (a b : Int) : cmpI a b = -1 ∨ cmpI a b = 0 ∨ cmpI a b = 1 := by unfold cmpI; split <;> (try split) <;> omega

theorem ordS_zero {a b : Stp} : ordS a b = 0 ↔ a = b := by
  unfold ordS
  rcases a with ⟨a1, a2⟩; rcases b with ⟨b1, b2⟩
  simp only [Prod.mk.injEq]
  split
  · rename_i h; rw [cmpI_zero] at h ⊢; simp [h]
  · rename_i h; rw [cmpI_zero] at h; constructor
    · intro h'; rw [cmpI_zero] at h'; exact absurd h' h
    · intro h'; exact absurd h'.1 h
theorem ordS_range (a b : Stp) : ordS a b = -1 ∨ ordS a b = 0 ∨ ordS a b = 1 := by
  unfold ordS; split <;> exact cmpI_range _ _
theorem ordS_anti (a b : Stp) : ordS b a = - ordS a b := by
  unfold ordS
  have h1 := cmpI_anti a.1 b.1
  have h2 := cmpI_anti a.2 b.2
  split <;> split <;> omega
theorem ordS_neg {a b : Stp} : ordS a b = -1 ↔ a.1 < b.1 ∨ a.1 = b.1 ∧ a.2 < b.2 := by
  unfold ordS
  split
  · rename_i h; rw [cmpI_zero] at h; rw [cmpI_neg]; omega
  · rename_i h; rw [cmpI_zero] at h; rw [cmpI_neg]; omega
theorem ordS_trans {a b c : Stp} (h : ordS a b = -1) (k : ordS b c = -1) : ordS a c = -1 := by
  rw [ordS_neg] at *; omega

theorem ordP_range : ∀ (a b : List Stp), ordP a b = -1 ∨ ordP a b = 0 ∨ ordP a b = 1
  | [], [] => by simp [ordP]
  | [], _ :: _ => by simp [ordP]
  | _ :: _, [] => by simp [ordP]
  | a :: as, b :: bs => by
    unfold ordP
    split
    · exact ordP_range as bs
    · exact ordS_range a b
theorem ordP_zero : ∀ {a b : List Stp}, ordP a b = 0 ↔ a = b
  | [], [] => by simp [ordP]
  | [], _ :: _ => by simp [ordP]
  | _ :: _, [] => by simp [ordP]
  | a :: as, b :: bs => by
    unfold ordP
    split
    · rename_i h; rw [ordS_zero] at h; rw [ordP_zero (a := as) (b := bs)]; simp [h]
    · rename_i h; constructor
      · intro h'; exact absurd h' h
      · intro h'; rw [ordS_zero] at h; simp at h'; exact absurd h'.1 h
theorem ordP_anti : ∀ (a b : List Stp), ordP b a = - ordP a b
  | [], [] => by simp [ordP]
  | [], _ :: _ => by simp [ordP]
  | _ :: _, [] => by simp [ordP]
  | a :: as, b :: bs => by
    unfold ordP
    have h1 := ordS_anti a b
    have h2 := ordP_anti as bs
    split <;> split <;> omega
theorem ordP_trans : ∀ {a b c : List Stp}, ordP a b = -1 → ordP b c = -1 → ordP a c = -1
  | [], [], _ => by intro h; simp [ordP] at h
  | [], _ :: _, [] => by intro _ h; simp [ordP] at h
  | [], _ :: _, _ :: _ => by intros; simp [ordP]
  | _ :: _, [], _ => by intro h; simp [ordP] at h
  | _ :: _, _ :: _, [] => by intro _ h; simp [ordP] at h
  | a :: as, b :: bs, c :: cs => by
    intro h k
    unfold ordP at h k ⊢
    by_cases h1 : ordS a b = 0
    · have e := ordS_zero.1 h1; subst e
      rw [if_pos h1] at h
      by_cases h2 : ordS a c = 0
      · rw [if_pos h2] at k ⊢; exact ordP_trans h k
      · rw [if_neg h2] at k ⊢; exact k
    · rw [if_neg h1] at h
      by_cases h2 : ordS b c = 0
      · have e := ordS_zero.1 h2; subst e
        rw [if_neg h1]; exact h
      · rw [if_neg h2] at k
        have := ordS_trans h k
        rw [if_neg (by omega)]; exact this

theorem ordM_range (a b : Mk) : ordM a b = -1 ∨ ordM a b = 0 ∨ ordM a b = 1 := by
  unfold ordM; split
  · exact cmpI_range _ _
  · exact ordP_range _ _
theorem ordM_zero {a b : Mk} : ordM a b = 0 ↔ a = b := by
  unfold ordM
  rcases a with ⟨a1, a2⟩; rcases b with ⟨b1, b2⟩
  simp only [Prod.mk.injEq]
  split
  · rename_i h; rw [ordP_zero] at h; rw [cmpI_zero]; simp [h]
  · rename_i h; constructor
    · intro h'; exact absurd h' h
    · intro h'; rw [ordP_zero] at h; exact absurd h'.1 h
theorem ordM_self (a : Mk) : ordM a a = 0 := ordM_zero.2 rfl
theorem ordM_anti (a b : Mk) : ordM b a = - ordM a b := by
  unfold ordM
  have h1 := ordP_anti a.1 b.1
  have h2 := cmpI_anti a.2 b.2
  split <;> split <;> omega
theorem ordM_trans {a b c : Mk} (h : ordM a b = -1) (k : ordM b c = -1) : ordM a c = -1 := by
  unfold ordM at *
  by_cases h1 : ordP a.1 b.1 = 0
  · have e := ordP_zero.1 h1
    rw [if_pos h1] at h
    rw [e]
    by_cases h2 : ordP b.1 c.1 = 0
    · rw [if_pos h2] at k ⊢; rw [cmpI_neg] at *; omega
    · rw [if_neg h2] at k ⊢; exact k
  · rw [if_neg h1] at h
    by_cases h2 : ordP b.1 c.1 = 0
    · have e := ordP_zero.1 h2
      rw [← e, if_neg h1]; exact h
    · rw [if_neg h2] at k
      have := ordP_trans h k
      rw [if_neg (by omega)]; exact this
def ltM (a b : Mk) : Prop := ordM a b = -1
theorem ordM_lt {a b : Mk} : ordM a b < 0 ↔ ordM a b = -1 := by have := ordM_range a b; omega
theorem ordM_gt {a b : Mk} : 0 < ordM a b ↔ ordM b a = -1 := by have := ordM_range a b; have := ordM_anti a b; omega

/-- what is wrong with a mark -/
def badS (s : Stp) : Bool := !(decide (0 ≤ s.1) && decide (s.1 ≤ 200)) || !(decide (0 ≤ s.2) && decide (s.2 ≤ 4))
def lastDigit (p : List Stp) : Int := (p.getLast?.map (·.1)).getD 0
def lastSite (p : List Stp) : Int := (p.getLast?.map (·.2)).getD 0
def checkM (m : Mk) : Int :=
  if 10 < m.1.length then 2
  else if m.1 = [] then 1
  else if m.1.any badS then 3
  else if lastDigit m.1 = 0 ∨ ¬ (1 ≤ m.2 ∧ m.2 ≤ 10000) then 3
  else 0
theorem checkM_ok {m : Mk} : checkM m = 0 ↔ m.1.length ≤ 10 ∧ m.1 ≠ [] ∧ m.1.any badS = false ∧ lastDigit m.1 ≠ 0 ∧ 1 ≤ m.2 ∧ m.2 ≤ 10000 := by
  unfold checkM
  split
  · constructor
    · intro h; omega
    · intro h; omega
  split
  · rename_i h; constructor
    · intro h; omega
    · intro h'; exact absurd h h'.2.1
  split
  · rename_i h; constructor
    · intro h; omega
    · intro h'; rw [h] at h'; simp at h'
  split
  · rename_i h; constructor
    · intro h; omega
    · intro h'; omega
  · rename_i h1 h2 h3 h4
    simp only [true_iff]
    refine ⟨by omega, h2, by simpa using h3, by omega, by omega, by omega⟩

/-- the mark so many behind one -/
def addLast (p : List Stp) (by_ : Int) : List Stp :=
  match p with
  | [] => []
  | [s] => [(s.1 + by_, s.2)]
  | s :: r => s :: addLast r by_
def afterM (m : Mk) (k : Int) : Mk := (addLast m.1 k, m.2 + k)
def nextM (m : Mk) (k : Int) : Mk × Int :=
  if checkM m ≠ 0 then (([], 0), checkM m)
  else if k < 0 ∨ 60 < k then (([], 0), 3)
  else if checkM (afterM m k) ≠ 0 then (([], 0), 3)
  else (afterM m k, 0)
def noneM (m : Mk) : Bool := m.1.isEmpty && decide (m.2 = 0)

theorem addLast_snoc (p : List Stp) (s : Stp) (k : Int) : addLast (p ++ [s]) k = p ++ [(s.1 + k, s.2)] := by
  induction p with
  | nil => rfl
  | cons a r ih =>
    cases r with
    | nil => rfl
    | cons b r' => simp only [List.cons_append, addLast] at ih ⊢; rw [ih]
theorem snoc_of {α : Type} {p : List α} (h : p ≠ []) : ∃ q s, p = q ++ [s] := ⟨p.dropLast, p.getLast h, (List.dropLast_concat_getLast h).symm⟩
theorem addLast_add (p : List Stp) (j k : Int) : addLast (addLast p j) k = addLast p (j + k) := by
  by_cases h : p = []
  · subst h; rfl
  · obtain ⟨q, s, rfl⟩ := snoc_of h
    rw [addLast_snoc, addLast_snoc, addLast_snoc]; simp [Int.add_assoc]
theorem addLast_zero (p : List Stp) : addLast p 0 = p := by
  by_cases h : p = []
  · subst h; rfl
  · obtain ⟨q, s, rfl⟩ := snoc_of h
    rw [addLast_snoc]; simp
theorem addLast_len (p : List Stp) (k : Int) : (addLast p k).length = p.length := by
  by_cases h : p = []
  · subst h; rfl
  · obtain ⟨q, s, rfl⟩ := snoc_of h
    rw [addLast_snoc]; simp
theorem afterM_add (m : Mk) (j k : Int) : afterM (afterM m j) k = afterM m (j + k) := by unfold afterM; rw [addLast_add, Int.add_assoc]
theorem afterM_zero (m : Mk) : afterM m 0 = m := by unfold afterM; rw [addLast_zero, Int.add_zero]
theorem ordS_self' (a : Stp) : ordS a a = 0 := ordS_zero.2 rfl
theorem ordP_app' (p a b : List Stp) : ordP (p ++ a) (p ++ b) = ordP a b := by
  induction p with
  | nil => rfl
  | cons s r ih => simp [ordP, ordS_self', ih]
theorem afterM_lt {m : Mk} (h : m.1 ≠ []) {j k : Int} (hj : j < k) : ordM (afterM m j) (afterM m k) = -1 := by
  obtain ⟨q, s, e⟩ := snoc_of h
  have h1 : ordP (addLast m.1 j) (addLast m.1 k) = -1 := by
    rw [e, addLast_snoc, addLast_snoc, ordP_app']
    have : ordS (s.1 + j, s.2) (s.1 + k, s.2) = -1 := ordS_neg.2 (.inl (by simp; omega))
    simp [ordP, this]
  unfold ordM afterM
  simp [h1]
theorem lastDigit_snoc (q : List Stp) (s : Stp) : lastDigit (q ++ [s]) = s.1 := by simp [lastDigit]
theorem lastSite_snoc (q : List Stp) (s : Stp) : lastSite (q ++ [s]) = s.2 := by simp [lastSite]
theorem badS_ok {s : Stp} : badS s = false ↔ (0 ≤ s.1 ∧ s.1 ≤ 200 ∧ 0 ≤ s.2 ∧ s.2 ≤ 4) := by
  unfold badS
  simp only [Bool.or_eq_false_iff, Bool.not_eq_false', Bool.and_eq_true, decide_eq_true_eq]
  omega
theorem any_snoc_badS (q : List Stp) (s : Stp) : (q ++ [s]).any badS = (q.any badS || badS s) := by simp
/-- what is right so far behind is right between, too -/
theorem check_between {m : Mk} {j k : Int} (h0 : checkM m = 0) (hk : checkM (afterM m k) = 0) (hj0 : 0 ≤ j) (hjk : j ≤ k) : checkM (afterM m j) = 0 := by
  obtain ⟨a1, a2, a3, a4, a5, a6⟩ := checkM_ok.1 h0
  obtain ⟨b1, b2, b3, b4, b5, b6⟩ := checkM_ok.1 hk
  obtain ⟨q, s, e⟩ := snoc_of a2
  rw [checkM_ok]
  unfold afterM at *
  simp only at *
  rw [e, addLast_snoc] at b3 b4
  rw [e] at a3 a4
  rw [any_snoc_badS, Bool.or_eq_false_iff] at a3 b3
  rw [lastDigit_snoc] at a4 b4
  obtain ⟨c1, c2, c3, c4⟩ := badS_ok.1 a3.2
  obtain ⟨d1, d2, d3, d4⟩ := badS_ok.1 b3.2
  simp only at d1 d2 d3 d4 b4
  refine ⟨by rw [addLast_len]; exact a1, ?_, ?_, ?_, by omega, by omega⟩
  · rw [e, addLast_snoc]; simp
  · rw [e, addLast_snoc, any_snoc_badS, Bool.or_eq_false_iff]
    exact ⟨a3.1, badS_ok.2 ⟨by simp; omega, by simp; omega, c3, c4⟩⟩
  · rw [e, addLast_snoc, lastDigit_snoc]; simp; omega
theorem nextM_ok {m : Mk} {k : Int} : (nextM m k).2 = 0 ↔ checkM m = 0 ∧ 0 ≤ k ∧ k ≤ 60 ∧ checkM (afterM m k) = 0 := by
  unfold nextM
  by_cases h1 : checkM m ≠ 0
  · rw [if_pos h1]; simp only; constructor
    · intro h; exact absurd h h1
    · intro h; exact absurd h.1 h1
  rw [if_neg h1]
  by_cases h2 : k < 0 ∨ 60 < k
  · rw [if_pos h2]; simp only; constructor
    · intro h; omega
    · intro h; omega
  rw [if_neg h2]
  by_cases h3 : checkM (afterM m k) ≠ 0
  · rw [if_pos h3]; simp only; constructor
    · intro h; omega
    · intro h; exact absurd h.2.2.2 h3
  rw [if_neg h3]
  simp only [true_iff]
  exact ⟨by omega, by omega, by omega, by omega⟩
theorem nextM_val {m : Mk} {k : Int} (h : (nextM m k).2 = 0) : (nextM m k).1 = afterM m k := by
  obtain ⟨h1, h2, h3, h4⟩ := nextM_ok.1 h
  unfold nextM
  rw [if_neg (by omega), if_neg (by omega), if_neg (by omega)]
theorem nextM_err {m : Mk} {k : Int} (h : (nextM m k).2 ≠ 0) : (nextM m k).1 = ([], 0) := by
  unfold nextM at h ⊢
  split
  · rfl
  split
  · rfl
  split
  · rfl
  · rename_i h1 h2 h3
    rw [if_neg h1, if_neg h2, if_neg h3] at h
    exact absurd rfl h

end Cp
