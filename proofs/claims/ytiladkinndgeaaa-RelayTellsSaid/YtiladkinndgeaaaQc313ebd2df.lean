/- Plain facts on marks: their order, what is right, and the gap between two of them. No program in sight. -/
set_option linter.unusedVariables false
set_option linter.unusedSimpArgs false
namespace Cp

abbrev Stp := Int × Int
abbrev Mk := List Stp × Int

def cmpI (a b : Int) : Int := if a < b then -1 else if b < a then 1 else 0
def ordS (a b : Stp) : Int := if cmpI a.1 b.1 = 0 then cmpI a.2 b.2 else cmpI a.1 b.1
def ordP : List Stp → List Stp → Int
  | [], [] => 0
  | [], _ :: _ => -1
  | _ :: _, [] => 1
  | a :: as, b :: bs => if ordS a b = 0 then ordP as bs else ordS a b
def ordM (a b : Mk) : Int := if ordP a.1 b.1 = 0 then cmpI a.2 b.2 else ordP a.1 b.1

theorem cmpI_zero {a b : Int} : cmpI a b = 0 ↔ a = b := by unfold cmpI; split <;> (try split) <;> omega
theorem cmpI_anti (a b : Int) : cmpI b a = - cmpI a b := by unfold cmpI; repeat' split
                                                            all_goals omega
theorem cmpI_neg {a b : Int} : cmpI a b = -1 ↔ a < b := by unfold cmpI; split <;> (try split) <;> omega
theorem cmpI_lt {a b : Int} : cmpI a b < 0 ↔ a < b := by unfold cmpI; split <;> (try split) <;> omega
theorem cmpI_pos {a b : Int} : 0 < cmpI a b ↔ b < a := by unfold cmpI; split <;> (try split) <;> omega
theorem cmpI_range (a b : Int) : cmpI a b = -1 ∨ cmpI a b = 0 ∨ cmpI a b = 1 := by unfold cmpI; split <;> (try split) <;> omega

theorem ordS_zero {a b : Stp} : ordS a b = 0 ↔ a = b := by
  unfold ordS
  rcases a with ⟨a1, a2⟩; rcases b with ⟨b1, b2⟩
  simp only [Prod.mk.injEq]
  split
  · rename_i h; rw [cmpI_zero] at h ⊢; simp [h]
  · rename_i h; rw [cmpI_zero] at h; constructor
    · intro h'; rw [cmpI_zero] at h'; exact absurd h' h
    · intro h'; exact absurd h'.1 h
theorem ordS_range (a b : Stp) : ordS a b = -1 ∨ ordS a b = 0 ∨ ordS a b = 1 := by
  unfold ordS; split <;> exact cmpI_range _ _
theorem ordS_anti (a b : Stp) : ordS b a = - ordS a b := by
  unfold ordS
  have h1 := cmpI_anti a.1 b.1
  have h2 := cmpI_anti a.2 b.2
  split <;> split <;> omega
theorem ordS_neg {a b : Stp} : ordS a b = -1 ↔ a.1 < b.1 ∨ a.1 = b.1 ∧ a.2 < b.2 := by
  unfold ordS
  split
  · rename_i h; rw [cmpI_zero] at h; rw [cmpI_neg]; omega
  · rename_i h; rw [cmpI_zero] at h; rw [cmpI_neg]; omega
theorem ordS_trans {a b c : Stp} (h : ordS a b = -1) (k : ordS b c = -1) : ordS a c = -1 := by
  rw [ordS_neg] at *; omega

theorem ordP_range : ∀ (a b : List Stp), ordP a b = -1 ∨ ordP a b = 0 ∨ ordP a b = 1
  | [], [] => by simp [ordP]
  | [], _ :: _ => by simp [ordP]
  | _ :: _, [] => by simp [ordP]
  | a :: as, b :: bs => by
    unfold ordP
    split
    · exact ordP_range as bs
    · exact ordS_range a b
theorem ordP_zero : ∀ {a b : List Stp}, ordP a b = 0 ↔ a = b
  | [], [] => by simp [ordP]
  | [], _ :: _ => by simp [ordP]
  | _ :: _, [] => by simp [ordP]
  | a :: as, b :: bs => by
    unfold ordP
    split
    · rename_i h; rw [ordS_zero] at h; rw [ordP_zero (a := as) (b := bs)]; simp [h]
    · rename_i h; constructor
      · intro h'; exact absurd h' h
      · intro h'; rw [ordS_zero] at h; simp at h'; exact absurd h'.1 h
theorem ordP_anti : ∀ (a b : List Stp), ordP b a = - ordP a b
  | [], [] => by simp [ordP]
  | [], _ :: _ => by simp [ordP]
  | _ :: _, [] => by simp [ordP]
  | a :: as, b :: bs => by
    unfold ordP
    have h1 := ordS_anti a b
    have h2 := ordP_anti as bs
    split <;> split <;> omega
theorem ordP_trans : ∀ {a b c : List Stp}, ordP a b = -1 → ordP b c = -1 → ordP a c = -1
  | [], [], _ => by intro h; simp [ordP] at h
  | [], _ :: _, [] => by intro _ h; simp [ordP] at h
  | [], _ :: _, _ :: _ => by intros; simp [ordP]
  | _ :: _, [], _ => by intro h; simp [ordP] at h
  | _ :: _, _ :: _, [] => by intro _ h; simp [ordP] at h
  | a :: as, b :: bs, c :: cs => by
    intro h k
    unfold ordP at h k ⊢
    by_cases h1 : ordS a b = 0
    · have e := ordS_zero.1 h1; subst e
      rw [if_pos h1] at h
      by_cases h2 : ordS a c = 0
      · rw [if_pos h2] at k ⊢; exact ordP_trans h k
      · rw [if_neg h2] at k ⊢; exact k
    · rw [if_neg h1] at h
      by_cases h2 : ordS b c = 0
      · have e := ordS_zero.1 h2; subst e
        rw [if_neg h1]; exact h
      · rw [if_neg h2] at k
        have := ordS_trans h k
        rw [if_neg (by omega)]; exact this

theorem ordM_range (a b : Mk) : ordM a b = -1 ∨ ordM a b = 0 ∨ ordM a b = 1 := by
  unfold ordM; split
  · exact cmpI_range _ _
  · exact ordP_range _ _
theorem ordM_zero {a b : Mk} : ordM a b = 0 ↔ a = b := by
  unfold ordM
  rcases a with ⟨a1, a2⟩; rcases b with ⟨b1, b2⟩
  simp only [Prod.mk.injEq]
  split
  · rename_i h; rw [ordP_zero] at h; rw [cmpI_zero]; simp [h]
  · rename_i h; constructor
    · intro h'; exact absurd h' h
    · intro h'; rw [ordP_zero] at h; exact absurd h'.1 h
theorem ordM_self (a : Mk) : ordM a a = 0 := ordM_zero.2 rfl
theorem ordM_anti (a b : Mk) : ordM b a = - ordM a b := by
  unfold ordM
  have h1 := ordP_anti a.1 b.1
  have h2 := cmpI_anti a.2 b.2
  split <;> split <;> omega
theorem ordM_trans {a b c : Mk} (h : ordM a b = -1) (k : ordM b c = -1) : ordM a c = -1 := by
  unfold ordM at *
  by_cases h1 : ordP a.1 b.1 = 0
  · have e := ordP_zero.1 h1
    rw [if_pos h1] at h
    rw [e]
    by_cases h2 : ordP b.1 c.1 = 0
    · rw [if_pos h2] at k ⊢; rw [cmpI_neg] at *; omega
    · rw [if_neg h2] at k ⊢; exact k
  · rw [if_neg h1] at h
    by_cases h2 : ordP b.1 c.1 = 0
    · have e := ordP_zero.1 h2
      rw [← e, if_neg h1]; exact h
    · rw [if_neg h2] at k
      have := ordP_trans h k
      rw [if_neg (by omega)]; exact this
def ltM (a b : Mk) : Prop := ordM a b = -1
theorem ordM_lt {a b : Mk} : ordM a b < 0 ↔ ordM a b = -1 := by have := ordM_range a b; omega
theorem ordM_gt {a b : Mk} : 0 < ordM a b ↔ ordM b a = -1 := by have := ordM_range a b; have := ordM_anti a b; omega

/-- what is wrong with a mark -/
def badS (s : Stp) : Bool := !(decide (0 ≤ s.1) && decide (s.1 ≤ 200)) || !(decide (0 ≤ s.2) && decide (s.2 ≤ 4))
def lastDigit (p : List Stp) : Int := (p.getLast?.map (·.1)).getD 0
def lastSite (p : List Stp) : Int := (p.getLast?.map (·.2)).getD 0
def checkM (m : Mk) : Int :=
  if 10 < m.1.length then 2
  else if m.1 = [] then 1
  else if m.1.any badS then 3
  else if lastDigit m.1 = 0 ∨ ¬ (1 ≤ m.2 ∧ m.2 ≤ 10000) then 3
  else 0
theorem checkM_ok {m : Mk} : checkM m = 0 ↔ m.1.length ≤ 10 ∧ m.1 ≠ [] ∧ m.1.any badS = false ∧ lastDigit m.1 ≠ 0 ∧ 1 ≤ m.2 ∧ m.2 ≤ 10000 := by
  unfold checkM
  split
  · constructor
    · intro h; omega
    · intro h; omega
  split
  · rename_i h; constructor
    · intro h; omega
    · intro h'; exact absurd h h'.2.1
  split
  · rename_i h; constructor
    · intro h; omega
    · intro h'; rw [h] at h'; simp at h'
  split
  · rename_i h; constructor
    · intro h; omega
    · intro h'; omega
  · rename_i h1 h2 h3 h4
    simp only [true_iff]
    refine ⟨by omega, h2, by simpa using h3, by omega, by omega, by omega⟩

/-- the mark so many behind one -/
def addLast (p : List Stp) (by_ : Int) : List Stp :=
  match p with
  | [] => []
  | [s] => [(s.1 + by_, s.2)]
  | s :: r => s :: addLast r by_
def afterM (m : Mk) (k : Int) : Mk := (addLast m.1 k, m.2 + k)
def nextM (m : Mk) (k : Int) : Mk × Int :=
  if checkM m ≠ 0 then (([], 0), checkM m)
  else if k < 0 ∨ 60 < k then (([], 0), 3)
  else if checkM (afterM m k) ≠ 0 then (([], 0), 3)
  else (afterM m k, 0)
def noneM (m : Mk) : Bool := m.1.isEmpty && decide (m.2 = 0)

theorem addLast_snoc (p : List Stp) (s : Stp) (k : Int) : addLast (p ++ [s]) k = p ++ [(s.1 + k, s.2)] := by
  induction p with
  | nil => rfl
  | cons a r ih =>
    cases r with
    | nil => rfl
    | cons b r' => simp only [List.cons_append, addLast] at ih ⊢; rw [ih]
theorem snoc_of {α : Type} {p : List α} (h : p ≠ []) : ∃ q s, p = q ++ [s] := ⟨p.dropLast, p.getLast h, (List.dropLast_concat_getLast h).symm⟩
theorem addLast_add (p : List Stp) (j k : Int) : addLast (addLast p j) k = addLast p (j + k) := by
  by_cases h : p = []
  · subst h; rfl
  · obtain ⟨q, s, rfl⟩ := snoc_of h
    rw [addLast_snoc, addLast_snoc, addLast_snoc]; simp [Int.add_assoc]
theorem addLast_zero (p : List Stp) : addLast p 0 = p := by
  by_cases h : p = []
  · subst h; rfl
  · obtain ⟨q, s, rfl⟩ := snoc_of h
    rw [addLast_snoc]; simp
theorem addLast_len (p : List Stp) (k : Int) : (addLast p k).length = p.length := by
  by_cases h : p = []
  · subst h; rfl
  · obtain ⟨q, s, rfl⟩ := snoc_of h
    rw [addLast_snoc]; simp
theorem afterM_add (m : Mk) (j k : Int) : afterM (afterM m j) k = afterM m (j + k) := by unfold afterM; rw [addLast_add, Int.add_assoc]
theorem afterM_zero (m : Mk) : afterM m 0 = m := by unfold afterM; rw [addLast_zero, Int.add_zero]
theorem ordS_self' (a : Stp) : ordS a a = 0 := ordS_zero.2 rfl
theorem ordP_app' (p a b : List Stp) : ordP (p ++ a) (p ++ b) = ordP a b := by
  induction p with
  | nil => rfl
  | cons s r ih => simp [ordP, ordS_self', ih]
theorem afterM_lt {m : Mk} (h : m.1 ≠ []) {j k : Int} (hj : j < k) : ordM (afterM m j) (afterM m k) = -1 := by
  obtain ⟨q, s, e⟩ := snoc_of h
  have h1 : ordP (addLast m.1 j) (addLast m.1 k) = -1 := by
    rw [e, addLast_snoc, addLast_snoc, ordP_app']
    have : ordS (s.1 + j, s.2) (s.1 + k, s.2) = -1 := ordS_neg.2 (.inl (by simp; omega))
    simp [ordP, this]
  unfold ordM afterM
  simp [h1]
theorem lastDigit_snoc (q : List Stp) (s : Stp) : lastDigit (q ++ [s]) = s.1 := by simp [lastDigit]
theorem lastSite_snoc (q : List Stp) (s : Stp) : lastSite (q ++ [s]) = s.2 := by simp [lastSite]
theorem badS_ok {s : Stp} : badS s = false ↔ (0 ≤ s.1 ∧ s.1 ≤ 200 ∧ 0 ≤ s.2 ∧ s.2 ≤ 4) := by
  unfold badS
  simp only [Bool.or_eq_false_iff, Bool.not_eq_false', Bool.and_eq_true, decide_eq_true_eq]
  omega
theorem any_snoc_badS (q : List Stp) (s : Stp) : (q ++ [s]).any badS = (q.any badS || badS s) := by simp
/-- what is right so far behind is right between, too -/
theorem check_between {m : Mk} {j k : Int} (h0 : checkM m = 0) (hk : checkM (afterM m k) = 0) (hj0 : 0 ≤ j) (hjk : j ≤ k) : checkM (afterM m j) = 0 := by
  obtain ⟨a1, a2, a3, a4, a5, a6⟩ := checkM_ok.1 h0
  obtain ⟨b1, b2, b3, b4, b5, b6⟩ := checkM_ok.1 hk
  obtain ⟨q, s, e⟩ := snoc_of a2
  rw [checkM_ok]
  unfold afterM at *
  simp only at *
  rw [e, addLast_snoc] at b3 b4
  rw [e] at a3 a4
  rw [any_snoc_badS, Bool.or_eq_false_iff] at a3 b3
  rw [lastDigit_snoc] at a4 b4
  obtain ⟨c1, c2, c3, c4⟩ := badS_ok.1 a3.2
  obtain ⟨d1, d2, d3, d4⟩ := badS_ok.1 b3.2
  simp only at d1 d2 d3 d4 b4
  refine ⟨by rw [addLast_len]; exact a1, ?_, ?_, ?_, by omega, by omega⟩
  · rw [e, addLast_snoc]; simp
  · rw [e, addLast_snoc, any_snoc_badS, Bool.or_eq_false_iff]
    exact ⟨a3.1, badS_ok.2 ⟨by simp; omega, by simp; omega, c3, c4⟩⟩
  · rw [e, addLast_snoc, lastDigit_snoc]; simp; omega
theorem nextM_ok {m : Mk} {k : Int} : (nextM m k).2 = 0 ↔ checkM m = 0 ∧ 0 ≤ k ∧ k ≤ 60 ∧ checkM (afterM m k) = 0 := by
  unfold nextM
  by_cases h1 : checkM m ≠ 0
  · rw [if_pos h1]; simp only; constructor
    · intro h; exact absurd h h1
    · intro h; exact absurd h.1 h1
  rw [if_neg h1]
  by_cases h2 : k < 0 ∨ 60 < k
  · rw [if_pos h2]; simp only; constructor
    · intro h; omega
    · intro h; omega
  rw [if_neg h2]
  by_cases h3 : checkM (afterM m k) ≠ 0
  · rw [if_pos h3]; simp only; constructor
    · intro h; omega
    · intro h; exact absurd h.2.2.2 h3
  rw [if_neg h3]
  simp only [true_iff]
  exact ⟨by omega, by omega, by omega, by omega⟩
theorem nextM_val {m : Mk} {k : Int} (h : (nextM m k).2 = 0) : (nextM m k).1 = afterM m k := by
  obtain ⟨h1, h2, h3, h4⟩ := nextM_ok.1 h
  unfold nextM
  rw [if_neg (by omega), if_neg (by omega), if_neg (by omega)]
theorem nextM_err {m : Mk} {k : Int} (h : (nextM m k).2 ≠ 0) : (nextM m k).1 = ([], 0) := by
  unfold nextM at h ⊢
  split
  · rfl
  split
  · rfl
  split
  · rfl
  · rename_i h1 h2 h3
    rw [if_neg h1, if_neg h2, if_neg h3] at h
    exact absurd rfl h

end Cp
/- Plain facts on texts, their edits, and the shortest way from one text to another. No program in sight. -/
namespace Cp

abbrev Tx := List UInt8
structure Edt where
  kind : Int
  at_ : Int
  many : Int
  text : Tx

def signB (c : UInt8) : Bool := decide (32 ≤ (c.toNat : Int)) && decide ((c.toNat : Int) ≤ 126)
def signsB (s : Tx) : Bool := s.all signB
def insideB (a m n : Int) : Bool := decide (0 ≤ a) && decide (0 ≤ m) && decide (a ≤ n) && decide (m ≤ n - a)

def plainE (s : Tx) (e : Edt) : Tx × Int :=
  if 300 < s.length then ([], 2)
  else if signsB s = false then ([], 3)
  else if e.kind = 1 then
    if e.many ≠ 0 then ([], 1)
    else if insideB e.at_ 0 s.length = false ∨ signsB e.text = false then ([], 3)
    else if 300 < s.length + e.text.length then ([], 2)
    else (s.take e.at_.toNat ++ e.text ++ s.drop e.at_.toNat, 0)
  else if e.kind = 2 then
    if e.text ≠ [] then ([], 1)
    else if insideB e.at_ e.many s.length = false then ([], 3)
    else (s.take e.at_.toNat ++ s.drop (e.at_.toNat + e.many.toNat), 0)
  else ([], 7)
def playE : Tx → List Edt → Tx × Int
  | s, [] => (s, 0)
  | s, e :: l => if (plainE s e).2 ≠ 0 then ([], (plainE s e).2) else playE (plainE s e).1 l

/-- how many signs of both are the same, in order, at most -/
def lcs : Tx → Tx → Nat
  | [], _ => 0
  | _ :: _, [] => 0
  | x :: xs, y :: ys => if x = y then 1 + lcs xs ys else max (lcs xs (y :: ys)) (lcs (x :: xs) ys)
termination_by a b => a.length + b.length

theorem lcs_nil_l (b : Tx) : lcs [] b = 0 := by simp [lcs]
theorem lcs_nil_r (a : Tx) : lcs a [] = 0 := by cases a <;> simp [lcs]
theorem lcs_cons (x y : UInt8) (xs ys : Tx) : lcs (x :: xs) (y :: ys) = if x = y then 1 + lcs xs ys else max (lcs xs (y :: ys)) (lcs (x :: xs) ys) := by
  rw [lcs]

/-- a way from one text to another, with so many signs taken and put -/
inductive Way : Tx → Tx → Nat → Prop
  | nil : Way [] [] 0
  | keep {a b n} (x : UInt8) : Way a b n → Way (x :: a) (x :: b) n
  | del {a b n} (x : UInt8) : Way a b n → Way (x :: a) b (n + 1)
  | ins {a b n} (x : UInt8) : Way a b n → Way a (x :: b) (n + 1)

theorem Way.symm {a b : Tx} {n : Nat} (h : Way a b n) : Way b a n := by
  induction h with
  | nil => exact .nil
  | keep x _ ih => exact .keep x ih
  | del x _ ih => exact .ins x ih
  | ins x _ ih => exact .del x ih

theorem Way.trans {a c : Tx} {m : Nat} (h : Way a c m) : ∀ {b : Tx} {n : Nat}, Way c b n → ∃ k, k ≤ m + n ∧ Way a b k := by
  induction h with
  | nil => intro b n h; exact ⟨n, by omega, h⟩
  | @keep a c m x h ih =>
    intro b n h2
    generalize hc : x :: c = c2 at h2
    induction h2 with
    | nil => cases hc
    | keep y h3 =>
      injection hc with h4 h5
      subst h4; subst h5
      obtain ⟨k, hk, hw⟩ := ih h3
      exact ⟨k, hk, .keep x hw⟩
    | del y h3 =>
      injection hc with h4 h5
      subst h4; subst h5
      obtain ⟨k, hk, hw⟩ := ih h3
      exact ⟨k + 1, by omega, .del x hw⟩
    | ins y h3 ih3 =>
      obtain ⟨k, hk, hw⟩ := ih3 hc
      exact ⟨k + 1, by omega, .ins y hw⟩
  | @del a c m x h ih =>
    intro b n h2
    obtain ⟨k, hk, hw⟩ := ih h2
    exact ⟨k + 1, by omega, .del x hw⟩
  | @ins a c m x h ih =>
    intro b n h2
    generalize hc : x :: c = c2 at h2
    induction h2 with
    | nil => cases hc
    | keep y h3 =>
      injection hc with h4 h5
      subst h4; subst h5
      obtain ⟨k, hk, hw⟩ := ih h3
      exact ⟨k + 1, by omega, .ins x hw⟩
    | del y h3 =>
      injection hc with h4 h5
      subst h4; subst h5
      obtain ⟨k, hk, hw⟩ := ih h3
      exact ⟨k, by omega, hw⟩
    | ins y h3 ih3 =>
      obtain ⟨k, hk, hw⟩ := ih3 hc
      exact ⟨k + 1, by omega, .ins y hw⟩

theorem lcs_le : ∀ (a b : Tx), lcs a b ≤ a.length ∧ lcs a b ≤ b.length
  | [], b => by simp [lcs]
  | x :: xs, [] => by simp [lcs]
  | x :: xs, y :: ys => by
    rw [lcs_cons]
    have h1 := lcs_le xs ys
    have h2 := lcs_le xs (y :: ys)
    have h3 := lcs_le (x :: xs) ys
    simp only [List.length_cons] at *
    split <;> omega
termination_by a b => a.length + b.length

/-- the least that is taken and put -/
def far (a b : Tx) : Nat := a.length + b.length - 2 * lcs a b

theorem lcs_step : ∀ (a b : Tx) (y : UInt8), lcs a b ≤ lcs a (y :: b) ∧ lcs a (y :: b) ≤ lcs a b + 1 ∧ (∀ x, lcs a b ≤ lcs (x :: a) b ∧ lcs (x :: a) b ≤ lcs a b + 1)
  | [], b, y => by
    refine ⟨by simp [lcs], by simp [lcs], fun x => ?_⟩
    induction b with
    | nil => simp [lcs]
    | cons z zs ih =>
      rw [lcs_cons]
      simp only [lcs_nil_l] at *
      split <;> omega
  | x :: xs, [], y => by
    have h1 := lcs_step xs [] y
    refine ⟨by simp [lcs], ?_, fun z => by simp [lcs]⟩
    rw [lcs_cons]
    simp only [lcs_nil_r] at *
    split <;> omega
  | x :: xs, z :: zs, y => by
    have h1 := lcs_step xs (z :: zs) y
    have h2 := lcs_step (x :: xs) zs z
    have h3 := lcs_step xs zs z
    refine ⟨?_, ?_, fun u => ?_⟩
    · rw [lcs_cons x y]
      have := h1.2.2 x
      split <;> omega
    · rw [lcs_cons x y]
      have := h1.2.2 x
      split <;> omega
    · rw [lcs_cons u z]
      have := h2.2.2 u
      have := h2.1
      split <;> omega
termination_by a b => a.length + b.length

theorem way_lcs (a b : Tx) : Way a b (far a b) := by
  match a, b with
  | [], [] => simpa [far, lcs] using Way.nil
  | [], y :: ys =>
    have := way_lcs [] ys
    have e : far [] (y :: ys) = far [] ys + 1 := by simp [far, lcs]
    rw [e]; exact .ins y this
  | x :: xs, [] =>
    have := way_lcs xs []
    have e : far (x :: xs) [] = far xs [] + 1 := by simp [far, lcs_nil_r]
    rw [e]; exact .del x this
  | x :: xs, y :: ys =>
    have l1 := lcs_le xs ys
    have l2 := lcs_le xs (y :: ys)
    have l3 := lcs_le (x :: xs) ys
    simp only [List.length_cons] at l1 l2 l3
    by_cases h : x = y
    · subst h
      have := way_lcs xs ys
      have e : far (x :: xs) (x :: ys) = far xs ys := by
        unfold far; rw [lcs_cons, if_pos rfl]; simp only [List.length_cons]; omega
      rw [e]; exact .keep x this
    · by_cases h2 : lcs (x :: xs) ys ≤ lcs xs (y :: ys)
      · have := way_lcs xs (y :: ys)
        have e : far (x :: xs) (y :: ys) = far xs (y :: ys) + 1 := by
          unfold far; rw [lcs_cons, if_neg h]; simp only [List.length_cons]; omega
        rw [e]; exact .del x this
      · have := way_lcs (x :: xs) ys
        have e : far (x :: xs) (y :: ys) = far (x :: xs) ys + 1 := by
          unfold far; rw [lcs_cons, if_neg h]; simp only [List.length_cons]; omega
        rw [e]; exact .ins y this
termination_by a.length + b.length

theorem way_far {a b : Tx} {n : Nat} (h : Way a b n) : far a b ≤ n := by
  induction h with
  | nil => simp [far]
  | @keep a b n x _ ih =>
    have := lcs_le a b
    unfold far at *; rw [lcs_cons, if_pos rfl]; simp only [List.length_cons]; omega
  | @del a b n x _ ih =>
    have := (lcs_step a b x).2.2 x
    unfold far at *; simp only [List.length_cons]; omega
  | @ins a b n x _ ih =>
    have := (lcs_step a b x).1
    unfold far at *; simp only [List.length_cons]; omega

theorem far_symm (a b : Tx) : far a b = far b a :=
  Nat.le_antisymm (way_far (way_lcs b a).symm) (way_far (way_lcs a b).symm)
theorem far_tri (a b c : Tx) : far a b ≤ far a c + far c b := by
  obtain ⟨k, hk, hw⟩ := (way_lcs a c).trans (way_lcs c b)
  exact Nat.le_trans (way_far hw) hk

/-- the document's own reckoning goes by beginnings -/
theorem Way.app {a b : Tx} {n : Nat} (h : Way a b n) : ∀ {c d : Tx} {m : Nat}, Way c d m → Way (a ++ c) (b ++ d) (n + m) := by
  induction h with
  | nil => intro c d m h; simpa using h
  | keep x _ ih => intro c d m h; exact .keep x (ih h)
  | @del _ _ n x _ ih => intro c d m h; have := Way.del x (ih h); rwa [Nat.add_right_comm] at this
  | @ins _ _ n x _ ih => intro c d m h; have := Way.ins x (ih h); rwa [Nat.add_right_comm] at this
theorem Way.rev {a b : Tx} {n : Nat} (h : Way a b n) : Way a.reverse b.reverse n := by
  induction h with
  | nil => exact .nil
  | keep x _ ih => simpa using ih.app (.keep x .nil)
  | del x _ ih => simpa using ih.app (.del x .nil)
  | ins x _ ih => simpa using ih.app (.ins x .nil)
theorem far_rev (a b : Tx) : far a.reverse b.reverse = far a b := by
  have h1 := way_far (way_lcs a b).rev
  have h2 := way_far (way_lcs a.reverse b.reverse).rev
  rw [List.reverse_reverse, List.reverse_reverse] at h2
  omega
theorem far_nil_l (b : Tx) : far [] b = b.length := by simp [far, lcs]
theorem far_nil_r (a : Tx) : far a [] = a.length := by simp [far, lcs_nil_r]
theorem far_cons (x y : UInt8) (a b : Tx) : far (x :: a) (y :: b) = if x = y then far a b else min (far (x :: a) b) (far a (y :: b)) + 1 := by
  have l1 := lcs_le a b
  have l2 := lcs_le a (y :: b)
  have l3 := lcs_le (x :: a) b
  simp only [List.length_cons] at l1 l2 l3
  unfold far
  rw [lcs_cons]
  simp only [List.length_cons]
  split <;> omega
theorem far_snoc (x y : UInt8) (a b : Tx) : far (a ++ [x]) (b ++ [y]) = if x = y then far a b else min (far (a ++ [x]) b) (far a (b ++ [y])) + 1 := by
  have h := far_cons x y a.reverse b.reverse
  have e1 : far (x :: a.reverse) (y :: b.reverse) = far (a ++ [x]) (b ++ [y]) := by rw [← far_rev (a ++ [x])]; simp
  have e2 : far (x :: a.reverse) b.reverse = far (a ++ [x]) b := by rw [← far_rev (a ++ [x])]; simp
  have e3 : far a.reverse (y :: b.reverse) = far a (b ++ [y]) := by rw [← far_rev a]; simp
  rw [e1, e2, e3, far_rev] at h
  exact h

/-! ### the edits that the walk makes -/
/-- one sign goes, behind so many that stay -/
def takeStep (out : List Edt) (k : Int) : List Edt :=
  match out.getLast? with
  | some e => if e.at_ = k then out.dropLast ++ [{ e with many := e.many + 1 }] else out ++ [⟨2, k, 1, []⟩]
  | none => [⟨2, k, 1, []⟩]
/-- one sign comes, at a place -/
def putStep (come : List Edt) (k : Int) (c : UInt8) : List Edt :=
  match come.getLast? with
  | some e => if e.at_ + e.text.length = k ∧ e.text.length ≠ 60 then come.dropLast ++ [{ e with text := e.text ++ [c] }] else come ++ [⟨1, k, 0, [c]⟩]
  | none => [⟨1, k, 0, [c]⟩]
def walkD : Tx → Tx → Int → Int → List Edt → List Edt → List Edt × List Edt
  | [], [], _, _, out, come => (out, come)
  | _ :: xs, [], st, k, out, come => walkD xs [] st k (takeStep out st) come
  | [], y :: ys, st, k, out, come => walkD [] ys st (k + 1) out (putStep come k y)
  | x :: xs, y :: ys, st, k, out, come =>
    if x = y then walkD xs ys (st + 1) (k + 1) out come
    else if lcs (x :: xs) ys ≤ lcs xs (y :: ys) then walkD xs (y :: ys) st k (takeStep out st) come
    else walkD (x :: xs) ys st (k + 1) out (putStep come k y)
termination_by a b => a.length + b.length
def rawD (a b : Tx) : List Edt := (walkD a b 0 0 [] []).1 ++ (walkD a b 0 0 [] []).2
def diffErr (a b : Tx) : Int := if 300 < a.length ∨ 300 < b.length then 2 else if signsB a = false ∨ signsB b = false then 3 else 0
def diffD (a b : Tx) : List Edt × Int := if diffErr a b ≠ 0 then ([], diffErr a b) else (rawD a b, 0)

/-- signs that are put and taken -/
def manyE (l : List Edt) : Int := (l.map fun e => (if 0 < e.many ∧ e.many ≤ 300 then e.many else 0) + (e.text.length : Int)).sum

theorem playE_app : ∀ (l : List Edt) (s : Tx) (m : List Edt), (playE s l).2 = 0 → playE s (l ++ m) = playE (playE s l).1 m
  | [], s, m, _ => rfl
  | e :: l, s, m, h => by
    rw [playE] at h
    rw [List.cons_append, playE, playE]
    by_cases h1 : (plainE s e).2 ≠ 0
    · rw [if_pos h1] at h; exact absurd h h1
    · rw [if_neg h1] at h
      rw [if_neg h1, if_neg h1]
      exact playE_app l _ m h

theorem signsB_app (a b : Tx) : signsB (a ++ b) = (signsB a && signsB b) := by simp [signsB]

/-- an edit that takes is good at a text, and makes another one of it -/
theorem plain_take {t u v w : Tx} {a m : Int} (h : t = u ++ v ++ w) (hs : signsB t = true) (hl : t.length ≤ 300) (ha : a = u.length) (hm : m = v.length) :
    plainE t ⟨2, a, m, []⟩ = (u ++ w, 0) := by
  subst ha; subst hm
  have hin : insideB (u.length : Int) (v.length : Int) (t.length : Int) = true := by
    unfold insideB; subst h
    simp only [List.length_append, Bool.and_eq_true, decide_eq_true_eq]; omega
  unfold plainE
  rw [if_neg (by omega), if_neg (by simp [hs])]
  simp only [hin]
  subst h
  simp [List.drop_append]
theorem plain_put {t u w x : Tx} {a : Int} (h : t = u ++ w) (hs : signsB t = true) (hx : signsB x = true) (hl : t.length + x.length ≤ 300) (ha : a = u.length) :
    plainE t ⟨1, a, 0, x⟩ = (u ++ x ++ w, 0) := by
  subst ha
  have hin : insideB (u.length : Int) 0 (t.length : Int) = true := by
    unfold insideB; subst h
    simp only [List.length_append, Bool.and_eq_true, decide_eq_true_eq]; omega
  unfold plainE
  rw [if_neg (by omega), if_neg (by simp [hs])]
  simp only [hin, hx]
  rw [if_pos trivial, if_neg (by simp), if_neg (by simp), if_neg (by omega)]
  subst h
  simp

/-- edits play from one text to another; the last one, if there is one, stands so -/
structure Plays (s : Tx) (l : List Edt) (t : Tx) : Prop where
  ok : playE s l = (t, 0)

theorem getLast_split {α : Type} {l : List α} {e : α} (h : l.getLast? = some e) : l = l.dropLast ++ [e] := by
  have hne : l ≠ [] := by rintro rfl; simp at h
  rw [List.getLast?_eq_some_getLast hne] at h
  injection h with h
  rw [← h]; exact (List.dropLast_concat_getLast hne).symm

theorem playE_snoc_inv {s t : Tx} {l : List Edt} {e : Edt} (h : playE s (l ++ [e]) = (t, 0)) : ∃ u, playE s l = (u, 0) ∧ plainE u e = (t, 0) := by
  have hall : ∀ (l : List Edt) (s : Tx), (playE s (l ++ [e])).2 = 0 → (playE s l).2 = 0 := by
    intro l
    induction l with
    | nil => intro s _; rfl
    | cons d l ih =>
      intro s h
      simp only [List.cons_append] at h
      unfold playE at h ⊢
      split at h
      · rename_i h1; exact absurd h h1
      · rename_i h1; rw [if_neg h1]; exact ih _ h
  have h0 := hall l s (by rw [h])
  rw [playE_app l s [e] h0] at h
  refine ⟨(playE s l).1, by rw [← h0], ?_⟩
  unfold playE at h
  split at h
  · rename_i h1
    have := congrArg Prod.snd h
    exact absurd this h1
  · rename_i h1
    simp only [playE, ne_eq, Decidable.not_not] at h h1
    have h3 := congrArg Prod.fst h
    simp only at h3
    rw [← h3, ← h1]

theorem plain_take_inv {u t : Tx} {e : Edt} (hk : e.kind = 2) (h : plainE u e = (t, 0)) :
    u.length ≤ 300 ∧ signsB u = true ∧ e.text = [] ∧ 0 ≤ e.at_ ∧ 0 ≤ e.many ∧ e.at_ + e.many ≤ u.length ∧ t = u.take e.at_.toNat ++ u.drop (e.at_.toNat + e.many.toNat) := by
  have h2 := congrArg Prod.snd h
  have h1 := congrArg Prod.fst h
  unfold plainE at h1 h2
  by_cases c1 : 300 < u.length
  · rw [if_pos c1] at h2; simp at h2
  rw [if_neg c1] at h1 h2
  by_cases c2 : signsB u = false
  · rw [if_pos c2] at h2; simp at h2
  rw [if_neg c2] at h1 h2
  rw [if_neg (by omega)] at h1 h2
  rw [if_pos hk] at h1 h2
  by_cases c3 : e.text ≠ []
  · rw [if_pos c3] at h2; simp at h2
  rw [if_neg c3] at h1 h2
  by_cases c4 : insideB e.at_ e.many u.length = false
  · rw [if_pos c4] at h2; simp at h2
  rw [if_neg c4] at h1 h2
  unfold insideB at c4
  simp only [Bool.not_eq_false, Bool.and_eq_true, decide_eq_true_eq] at c4
  exact ⟨by omega, by simpa using c2, by simpa using c3, c4.1.1.1, c4.1.1.2, by omega, h1.symm⟩

theorem plain_put_inv {u t : Tx} {e : Edt} (hk : e.kind = 1) (h : plainE u e = (t, 0)) :
    u.length + e.text.length ≤ 300 ∧ signsB u = true ∧ signsB e.text = true ∧ e.many = 0 ∧ 0 ≤ e.at_ ∧ e.at_ ≤ u.length ∧ t = u.take e.at_.toNat ++ e.text ++ u.drop e.at_.toNat := by
  have h2 := congrArg Prod.snd h
  have h1 := congrArg Prod.fst h
  unfold plainE at h1 h2
  by_cases c1 : 300 < u.length
  · rw [if_pos c1] at h2; simp at h2
  rw [if_neg c1] at h1 h2
  by_cases c2 : signsB u = false
  · rw [if_pos c2] at h2; simp at h2
  rw [if_neg c2] at h1 h2
  rw [if_pos hk] at h1 h2
  by_cases c3 : e.many ≠ 0
  · rw [if_pos c3] at h2; simp at h2
  rw [if_neg c3] at h1 h2
  by_cases c4 : insideB e.at_ 0 u.length = false ∨ signsB e.text = false
  · rw [if_pos c4] at h2; simp at h2
  rw [if_neg c4] at h1 h2
  by_cases c5 : 300 < u.length + e.text.length
  · rw [if_pos c5] at h2; simp at h2
  rw [if_neg c5] at h1 h2
  have c6 : insideB e.at_ 0 u.length = true := by
    cases hq : insideB e.at_ 0 u.length with
    | true => rfl
    | false => exact absurd (.inl hq) c4
  have c7 : signsB e.text = true := by
    cases hq : signsB e.text with
    | true => rfl
    | false => exact absurd (.inr hq) c4
  unfold insideB at c6
  simp only [Bool.and_eq_true, decide_eq_true_eq] at c6
  exact ⟨by omega, by simpa using c2, c7, by simpa using c3, c6.1.1.1, by omega, h1.symm⟩

/-- what a list of takes is -/
def TakeEs (l : List Edt) : Prop := ∀ e ∈ l, e.kind = 2 ∧ 1 ≤ e.many ∧ e.many ≤ 300 ∧ e.text = []
def PutEs (l : List Edt) : Prop := ∀ e ∈ l, e.kind = 1 ∧ e.many = 0 ∧ e.text ≠ [] ∧ e.text.length ≤ 60

theorem manyE_app (l m : List Edt) : manyE (l ++ m) = manyE l + manyE m := by simp [manyE]
theorem manyE_one (e : Edt) : manyE [e] = (if 0 < e.many ∧ e.many ≤ 300 then e.many else 0) + e.text.length := by simp [manyE]

theorem take_plays {s u w : Tx} {x : UInt8} {out : List Edt} (hp : playE s out = (u ++ x :: w, 0)) (ht : TakeEs out) (hs : signsB (u ++ x :: w) = true) (hl : (u ++ x :: w).length ≤ 300) (_hsl : s.length ≤ 300) :
    playE s (takeStep out u.length) = (u ++ w, 0) ∧ TakeEs (takeStep out u.length) ∧ manyE (takeStep out u.length) = manyE out + 1 := by
  have new : playE s (out ++ [⟨2, u.length, 1, []⟩]) = (u ++ w, 0) ∧ TakeEs (out ++ [⟨2, u.length, 1, []⟩]) ∧ manyE (out ++ [⟨2, u.length, 1, []⟩]) = manyE out + 1 := by
    refine ⟨?_, ?_, ?_⟩
    · rw [playE_app out s _ (by rw [hp]), hp]
      have := plain_take (t := u ++ x :: w) (u := u) (v := [x]) (w := w) (a := u.length) (m := 1) (by simp) hs hl rfl (by simp)
      simp [playE, this]
    · intro e he
      rcases List.mem_append.1 he with h | h
      · exact ht e h
      · have : e = ⟨2, u.length, 1, []⟩ := by simpa using h
        subst this; simp
    · rw [manyE_app, manyE_one]; simp
  unfold takeStep
  cases hg : out.getLast? with
  | none =>
    have : out = [] := by simpa using hg
    subst this
    simpa using new
  | some e =>
    have hsp := getLast_split hg
    simp only
    by_cases hk : e.at_ = (u.length : Int)
    · rw [if_pos hk]
      have hte := ht e (by rw [hsp]; simp)
      rw [hsp] at hp
      obtain ⟨t0, hp0, hpl⟩ := playE_snoc_inv hp
      obtain ⟨b1, b2, b3, b4, b5, b6, b7⟩ := plain_take_inv hte.1 hpl
      have ea : e.at_.toNat = u.length := by omega
      rw [ea] at b7
      -- t0 = u ++ v ++ x :: w, v of e.many signs
      have e1 : t0.take u.length = u := by
        have h0 := congrArg (List.take u.length) b7
        rw [List.take_append_of_le_length (l₁ := t0.take u.length) (by simp; omega), List.take_take, Nat.min_self] at h0
        rw [← h0]; simp
      have e2 : t0.drop (u.length + e.many.toNat) = x :: w := by
        rw [e1] at b7
        exact (List.append_cancel_left b7).symm
      have e3 : t0 = u ++ (t0.drop u.length).take e.many.toNat ++ x :: w := by
        conv => lhs; rw [← List.take_append_drop u.length t0, ← List.take_append_drop e.many.toNat (t0.drop u.length)]
        rw [e1, List.drop_drop, e2]; simp
      have e6 : t0 = u ++ ((t0.drop u.length).take e.many.toNat ++ [x]) ++ w := by
        conv => lhs; rw [e3]
        simp
      have e4 : ((t0.drop u.length).take e.many.toNat).length = e.many.toNat := by
        rw [List.length_take, List.length_drop]; omega
      have hlen : t0.length = u.length + e.many.toNat + (w.length + 1) := by
        conv => lhs; rw [e3]
        simp only [List.length_append, List.length_cons, e4]
      refine ⟨?_, ?_, ?_⟩
      · rw [playE_app _ s _ (by rw [hp0]), hp0]
        have hp := plain_take (t := t0) (u := u) (v := (t0.drop u.length).take e.many.toNat ++ [x]) (w := w) (a := u.length) (m := e.many + 1) e6 b2 b1 rfl (by simp only [List.length_append, e4, List.length_cons, List.length_nil]; omega)
        have he : ({ e with many := e.many + 1 } : Edt) = ⟨2, u.length, e.many + 1, []⟩ := by
          rcases e with ⟨k, a, m, t⟩
          simp at hte hk ⊢
          exact ⟨hte.1, hk, hte.2.2.2⟩
        rw [he]
        simp [playE, hp]
      · intro d hd
        rcases List.mem_append.1 hd with h | h
        · exact ht d ((List.dropLast_sublist _).mem h)
        · have : d = { e with many := e.many + 1 } := by simpa using h
          subst this
          refine ⟨hte.1, by simp; omega, ?_, hte.2.2.2⟩
          simp only
          omega
      · rw [manyE_app, manyE_one]
        conv => rhs; rw [hsp, manyE_app, manyE_one]
        have hm1 := hte.2.1
        have hm2 := hte.2.2.1
        simp only
        rw [if_pos (by omega), if_pos (by omega)]
        omega
    · rw [if_neg hk]; exact new

theorem put_plays {s u w : Tx} {y : UInt8} {come : List Edt} (hp : playE s come = (u ++ w, 0)) (ht : PutEs come) (hs : signsB (u ++ w) = true) (hy : signB y = true) (hl : (u ++ w).length + 1 ≤ 300) :
    playE s (putStep come u.length y) = (u ++ y :: w, 0) ∧ PutEs (putStep come u.length y) ∧ manyE (putStep come u.length y) = manyE come + 1 := by
  have new : playE s (come ++ [⟨1, u.length, 0, [y]⟩]) = (u ++ y :: w, 0) ∧ PutEs (come ++ [⟨1, u.length, 0, [y]⟩]) ∧ manyE (come ++ [⟨1, u.length, 0, [y]⟩]) = manyE come + 1 := by
    refine ⟨?_, ?_, ?_⟩
    · rw [playE_app come s _ (by rw [hp]), hp]
      have := plain_put (t := u ++ w) (u := u) (w := w) (x := [y]) (a := u.length) rfl hs (by simp [signsB, hy]) (by simpa using hl) rfl
      simp [playE, this]
    · intro e he
      rcases List.mem_append.1 he with h | h
      · exact ht e h
      · have : e = ⟨1, u.length, 0, [y]⟩ := by simpa using h
        subst this; simp
    · rw [manyE_app, manyE_one]; simp
  unfold putStep
  cases hg : come.getLast? with
  | none =>
    have : come = [] := by simpa using hg
    subst this
    simpa using new
  | some e =>
    have hsp := getLast_split hg
    simp only
    by_cases hk : e.at_ + e.text.length = (u.length : Int) ∧ e.text.length ≠ 60
    · rw [if_pos hk]
      have hte := ht e (by rw [hsp]; simp)
      rw [hsp] at hp
      obtain ⟨t0, hp0, hpl⟩ := playE_snoc_inv hp
      obtain ⟨b1, b2, b3, b4, b5, b6, b7⟩ := plain_put_inv hte.1 hpl
      have hsplit : u = t0.take e.at_.toNat ++ e.text ∧ w = t0.drop e.at_.toNat := by
        have hlen : (t0.take e.at_.toNat ++ e.text).length = u.length := by
          simp only [List.length_append, List.length_take]; omega
        exact List.append_inj b7 hlen.symm
      have e5 : t0.length + e.text.length = (u ++ w).length := by rw [b7]; simp only [List.length_append, List.length_take, List.length_drop]; omega
      refine ⟨?_, ?_, ?_⟩
      · rw [playE_app _ s _ (by rw [hp0]), hp0]
        have hp := plain_put (t := t0) (u := t0.take e.at_.toNat) (w := t0.drop e.at_.toNat) (x := e.text ++ [y]) (a := e.at_) (by simp) b2 (by rw [signsB_app, b3]; simp [signsB, hy])
          (by simp only [List.length_append, List.length_cons, List.length_nil] at e5 hl ⊢; omega) (by simp only [List.length_take]; omega)
        have he : ({ e with text := e.text ++ [y] } : Edt) = ⟨1, e.at_, 0, e.text ++ [y]⟩ := by
          rcases e with ⟨k, a, m, t⟩
          simp at hte ⊢
          exact ⟨hte.1, hte.2.1⟩
        rw [he, hsplit.2]
        conv => rhs; rw [hsplit.1]
        simp [playE, hp]
      · intro d hd
        rcases List.mem_append.1 hd with h | h
        · exact ht d ((List.dropLast_sublist _).mem h)
        · have : d = { e with text := e.text ++ [y] } := by simpa using h
          subst this
          refine ⟨hte.1, hte.2.1, by simp, ?_⟩
          simp only [List.length_append, List.length_cons, List.length_nil]
          have := hte.2.2.2
          omega
      · rw [manyE_app, manyE_one]
        conv => rhs; rw [hsp, manyE_app, manyE_one]
        simp only [List.length_append, List.length_cons, List.length_nil]
        omega
    · rw [if_neg hk]; exact new

/-- the signs that stay -/
def stays : Tx → Tx → Tx
  | [], _ => []
  | _ :: _, [] => []
  | x :: xs, y :: ys => if x = y then x :: stays xs ys else if lcs (x :: xs) ys ≤ lcs xs (y :: ys) then stays xs (y :: ys) else stays (x :: xs) ys
termination_by a b => a.length + b.length
theorem stays_nil_r (a : Tx) : stays a [] = [] := by cases a <;> simp [stays]
theorem stays_facts : ∀ (a b : Tx), (stays a b).length = lcs a b ∧ (signsB a = true → signsB (stays a b) = true)
  | [], b => by simp [stays, lcs, signsB]
  | x :: xs, [] => by simp [stays, lcs, signsB]
  | x :: xs, y :: ys => by
    have h1 := stays_facts xs ys
    have h2 := stays_facts xs (y :: ys)
    have h3 := stays_facts (x :: xs) ys
    rw [lcs_cons, stays]
    by_cases c : x = y
    · rw [if_pos c, if_pos c]
      refine ⟨by simp [h1.1]; omega, fun h => ?_⟩
      simp only [signsB, List.all_cons, Bool.and_eq_true] at h ⊢
      exact ⟨h.1, h1.2 h.2⟩
    · rw [if_neg c, if_neg c]
      by_cases c2 : lcs (x :: xs) ys ≤ lcs xs (y :: ys)
      · rw [if_pos c2]
        refine ⟨by rw [h2.1]; omega, fun h => h2.2 ?_⟩
        simp only [signsB, List.all_cons, Bool.and_eq_true] at h ⊢
        exact h.2
      · rw [if_neg c2]
        exact ⟨by rw [h3.1]; omega, h3.2⟩
termination_by a b => a.length + b.length

theorem walk_plays {s k0 : Tx} : ∀ (a b pre don : Tx) (st k : Int) (out come : List Edt), playE s out = (pre ++ a, 0) → TakeEs out → playE k0 come = (don ++ stays a b, 0) → PutEs come →
    st = pre.length → k = don.length → signsB (pre ++ a) = true → signsB (don ++ b) = true → (pre ++ a).length ≤ 300 → (don ++ b).length ≤ 300 → s.length ≤ 300 →
    signsB don = true →
    playE s (walkD a b st k out come).1 = (pre ++ stays a b, 0) ∧ TakeEs (walkD a b st k out come).1 ∧
    playE k0 (walkD a b st k out come).2 = (don ++ b, 0) ∧ PutEs (walkD a b st k out come).2 ∧
    manyE (walkD a b st k out come).1 + manyE (walkD a b st k out come).2 = manyE out + manyE come + far a b
  | [], [], pre, don, st, k, out, come, h1, h2, h3, h4, _, _, _, _, _, _, _, _ => by
    simp only [stays, List.append_nil, walkD] at *
    exact ⟨h1, h2, h3, h4, by simp [far]⟩
  | x :: xs, [], pre, don, st, k, out, come, h1, h2, h3, h4, h5, h6, h7, h8, h9, h10, h11, h12 => by
    obtain ⟨g1, g2, g3⟩ := take_plays h1 h2 h7 h9 h11
    have hs7 : signsB (pre ++ xs) = true := by
      rw [signsB_app] at h7 ⊢
      simp only [signsB, List.all_cons, Bool.and_eq_true] at h7 ⊢
      exact ⟨h7.1, h7.2.2⟩
    have e0 : stays (x :: xs) [] = stays xs [] := by rw [stays_nil_r, stays_nil_r]
    rw [e0] at h3 ⊢
    subst h5
    obtain ⟨i1, i2, i3, i4, i5⟩ := walk_plays xs [] pre don pre.length k (takeStep out pre.length) come g1 g2 h3 h4 rfl h6 hs7 h8 (by simp at h9 ⊢; omega) h10 h11 h12
    rw [walkD]
    refine ⟨i1, i2, i3, i4, ?_⟩
    rw [i5, g3, far_nil_r, far_nil_r]
    simp only [List.length_cons]; omega
  | [], y :: ys, pre, don, st, k, out, come, h1, h2, h3, h4, h5, h6, h7, h8, h9, h10, h11, h12 => by
    have e0 : ∀ z, stays [] z = [] := fun z => by simp [stays]
    rw [e0] at h3 ⊢
    have hy : signB y = true := by
      rw [signsB_app] at h8
      simp only [signsB, List.all_cons, Bool.and_eq_true] at h8
      exact h8.2.1
    obtain ⟨g1, g2, g3⟩ := put_plays (w := []) h3 h4 (by simpa using h12) hy (by simp at h10 ⊢; omega)
    subst h6
    obtain ⟨i1, i2, i3, i4, i5⟩ := walk_plays [] ys pre (don ++ [y]) st (don.length + 1) out (putStep come don.length y) h1 h2 (by rw [e0]; simpa using g1) g2 h5 (by simp) h7 (by simpa using h8) h9 (by simpa using h10) h11
      (by rw [signsB_app, h12]; simp [signsB, hy])
    rw [walkD]
    rw [e0] at i1
    refine ⟨i1, i2, by simpa using i3, i4, ?_⟩
    rw [i5, g3, far_nil_l, far_nil_l]
    simp only [List.length_cons]; omega
  | x :: xs, y :: ys, pre, don, st, k, out, come, h1, h2, h3, h4, h5, h6, h7, h8, h9, h10, h11, h12 => by
    have hy : signB y = true := by
      rw [signsB_app] at h8
      simp only [signsB, List.all_cons, Bool.and_eq_true] at h8
      exact h8.2.1
    have l1 := lcs_le xs ys
    have l2 := lcs_le xs (y :: ys)
    have l3 := lcs_le (x :: xs) ys
    simp only [List.length_cons] at l1 l2 l3
    rw [walkD]
    by_cases c : x = y
    · subst c
      rw [if_pos rfl]
      have e0 : stays (x :: xs) (x :: ys) = x :: stays xs ys := by rw [stays, if_pos rfl]
      rw [e0] at h3 ⊢
      obtain ⟨i1, i2, i3, i4, i5⟩ := walk_plays xs ys (pre ++ [x]) (don ++ [x]) (st + 1) (k + 1) out come (by simpa using h1) h2 (by simpa using h3) h4 (by simp; omega) (by simp; omega)
        (by simpa using h7) (by simpa using h8) (by simpa using h9) (by simpa using h10) h11 (by rw [signsB_app, h12]; simp [signsB, hy])
      refine ⟨by simpa using i1, i2, by simpa using i3, i4, ?_⟩
      rw [i5, far_cons, if_pos rfl]
    · rw [if_neg c]
      by_cases c2 : lcs (x :: xs) ys ≤ lcs xs (y :: ys)
      · rw [if_pos c2]
        have e0 : stays (x :: xs) (y :: ys) = stays xs (y :: ys) := by rw [stays, if_neg c, if_pos c2]
        rw [e0] at h3 ⊢
        obtain ⟨g1, g2, g3⟩ := take_plays h1 h2 h7 h9 h11
        have hs7 : signsB (pre ++ xs) = true := by
          rw [signsB_app] at h7 ⊢
          simp only [signsB, List.all_cons, Bool.and_eq_true] at h7 ⊢
          exact ⟨h7.1, h7.2.2⟩
        subst h5
        obtain ⟨i1, i2, i3, i4, i5⟩ := walk_plays xs (y :: ys) pre don pre.length k (takeStep out pre.length) come g1 g2 h3 h4 rfl h6 hs7 h8 (by simp at h9 ⊢; omega) h10 h11 h12
        refine ⟨i1, i2, i3, i4, ?_⟩
        rw [i5, g3]
        have : far (x :: xs) (y :: ys) = far xs (y :: ys) + 1 := by
          unfold far; rw [lcs_cons, if_neg c]; simp only [List.length_cons]; omega
        omega
      · rw [if_neg c2]
        have e0 : stays (x :: xs) (y :: ys) = stays (x :: xs) ys := by rw [stays, if_neg c, if_neg c2]
        rw [e0] at h3 ⊢
        have hst := stays_facts (x :: xs) ys
        have hsx : signsB (x :: xs) = true := by rw [signsB_app] at h7; simp only [Bool.and_eq_true] at h7; exact h7.2
        obtain ⟨g1, g2, g3⟩ := put_plays h3 h4 (by rw [signsB_app, h12, hst.2 hsx]; rfl) hy (by simp only [List.length_append, List.length_cons] at h10 ⊢; omega)
        subst h6
        obtain ⟨i1, i2, i3, i4, i5⟩ := walk_plays (x :: xs) ys pre (don ++ [y]) st (don.length + 1) out (putStep come don.length y) h1 h2 (by simpa using g1) g2 h5 (by simp) h7 (by simpa using h8) h9 (by simpa using h10) h11
          (by rw [signsB_app, h12]; simp [signsB, hy])
        refine ⟨i1, i2, by simpa using i3, i4, ?_⟩
        rw [i5, g3]
        have : far (x :: xs) (y :: ys) = far (x :: xs) ys + 1 := by
          unfold far; rw [lcs_cons, if_neg c]; simp only [List.length_cons]; omega
        omega
termination_by a b => a.length + b.length

/-- WHAT IS PLAYED LEADS FROM ONE TEXT TO THE OTHER, WITH AS FEW SIGNS AS MAY BE -/
theorem raw_leads {a b : Tx} (ha : a.length ≤ 300) (hb : b.length ≤ 300) (sa : signsB a = true) (sb : signsB b = true) :
    playE a (rawD a b) = (b, 0) ∧ manyE (rawD a b) = far a b ∧ (∀ e ∈ rawD a b, ¬ (e.many = 0 ∧ e.text = []) ∧ e.text.length ≤ 60) := by
  have h := walk_plays (s := a) (k0 := stays a b) a b [] [] 0 0 [] [] rfl (by simp [TakeEs]) rfl (by simp [PutEs]) (by simp) (by simp) (by simpa using sa) (by simpa using sb) (by simpa using ha) (by simpa using hb) ha (by simp [signsB])
  obtain ⟨h1, h2, h3, h4, h5⟩ := h
  refine ⟨?_, ?_, fun e he => ?_⟩
  · unfold rawD
    rw [playE_app _ _ _ (by rw [h1]), h1]
    simpa using h3
  · unfold rawD
    rw [manyE_app, h5]; simp [manyE]
  · rcases List.mem_append.1 he with h | h
    · obtain ⟨_, k1, _, k2⟩ := h2 e h
      exact ⟨by omega, by rw [k2]; simp⟩
    · obtain ⟨_, _, k2, k3⟩ := h4 e h
      exact ⟨fun hh => k2 hh.2, k3⟩

end Cp
/- Plain facts on atoms and runs. No program in sight. -/
namespace Cp
abbrev At := Mk × UInt8
abbrev Rn := Mk × Tx

def checkAF (prev : Option Mk) : List At → Int
  | [] => 0
  | a :: r =>
    if checkM a.1 ≠ 0 then checkM a.1
    else if signB a.2 = false then 3
    else if (match prev with | some p => decide (0 ≤ ordM p a.1) | none => false) then 4
    else checkAF (some a.1) r
def checkA (l : List At) : Int := if 300 < l.length then 2 else checkAF none l

/-- atoms in order, each one right -/
def SortedA : List At → Prop
  | [] => True
  | [_] => True
  | a :: b :: r => ordM a.1 b.1 = -1 ∧ SortedA (b :: r)

theorem checkAF_ok : ∀ {l : List At} {prev : Option Mk}, checkAF prev l = 0 ↔
    (∀ a ∈ l, checkM a.1 = 0 ∧ signB a.2 = true) ∧ SortedA l ∧ (∀ p a, prev = some p → l.head? = some a → ordM p a.1 = -1)
  | [], prev => by simp [checkAF, SortedA]
  | a :: r, prev => by
    unfold checkAF
    by_cases h1 : checkM a.1 ≠ 0
    · rw [if_pos h1]
      constructor
      · intro h; exact absurd h h1
      · intro h; exact absurd (h.1 a (by simp)).1 h1
    rw [if_neg h1]
    by_cases h2 : signB a.2 = false
    · rw [if_pos h2]
      constructor
      · intro h; omega
      · intro h; have := (h.1 a (by simp)).2; rw [h2] at this; cases this
    rw [if_neg h2]
    have hh1 : checkM a.1 = 0 := by omega
    have hh2 : signB a.2 = true := by simpa using h2
    by_cases h3 : (match prev with | some p => decide (0 ≤ ordM p a.1) | none => false) = true
    · rw [if_pos h3]
      constructor
      · intro h; omega
      · intro h
        cases prev with
        | none => simp at h3
        | some p =>
          have := h.2.2 p a rfl rfl
          simp at h3; omega
    · rw [if_neg h3, checkAF_ok (l := r) (prev := some a.1)]
      constructor
      · rintro ⟨g1, g2, g3⟩
        refine ⟨?_, ?_, ?_⟩
        · intro x hx
          rcases List.mem_cons.1 hx with rfl | hx
          · exact ⟨hh1, hh2⟩
          · exact g1 x hx
        · cases r with
          | nil => trivial
          | cons b r' => exact ⟨g3 a.1 b rfl rfl, g2⟩
        · intro p x hp hx
          subst hp
          have : a = x := by simpa using hx
          subst this
          simp at h3
          have := ordM_range p a.1
          omega
      · rintro ⟨g1, g2, g3⟩
        refine ⟨fun x hx => g1 x (by simp [hx]), ?_, ?_⟩
        · cases r with
          | nil => trivial
          | cons b r' => exact g2.2
        · intro p x hp hx
          cases r with
          | nil => simp at hx
          | cons b r' =>
            have e1 : a.1 = p := by simpa using hp
            have e2 : b = x := by simpa using hx
            subst e1; subst e2
            exact g2.1

def textA (l : List At) : Tx := l.map (·.2)
def hasM (l : List At) (m : Mk) : Bool := l.any fun a => decide (ordM a.1 m = 0)
def hasG (l : List Mk) (m : Mk) : Bool := l.any fun x => decide (ordM x m = 0)

def checkR (r : Rn) : Int :=
  if checkM r.1 ≠ 0 then checkM r.1
  else if r.2 = [] then 1
  else if 60 < r.2.length then 2
  else if signsB r.2 = false then 3
  else (nextM r.1 (r.2.length - 1)).2
def atomsR (r : Rn) : List At := (List.range r.2.length).map fun (i : Nat) => (afterM r.1 (i : Int), r.2.getD i 0)
/-- one atom more, behind the runs so far -/
def runStep (out : List Rn) (a : At) : List Rn :=
  match out.getLast? with
  | some r => if r.2.length < 60 ∧ ordM (afterM r.1 r.2.length) a.1 = 0 then out.dropLast ++ [(r.1, r.2 ++ [a.2])] else out ++ [(a.1, [a.2])]
  | none => [(a.1, [a.2])]
def runsA (l : List At) : List Rn := l.foldl runStep []

end Cp
/- Plain facts on the marks between two others: the gap that is found, and what is made in it. No program in sight. -/
namespace Cp

/-- steps that lead into a gap; the digits that are free there, from one to another one -/
structure Gap where
  path : List Stp
  least : Int
  most : Int

def aboveL (pre : List Stp) : List Stp → Gap
  | [] => ⟨pre, 1, 200⟩
  | s :: r => if s.1 < 200 then ⟨pre, s.1 + 1, 200⟩ else aboveL (pre ++ [s]) r
def belowL (site : Int) (pre : List Stp) : List Stp → Gap
  | [] => ⟨pre, 1, 200⟩
  | s :: r => if 1 < s.1 then ⟨pre, 1, s.1 - 1⟩ else if s.1 = 1 then ⟨pre ++ [(0, site)], 1, 200⟩ else belowL site (pre ++ [s]) r
def findL (site : Int) (pre : List Stp) : List Stp → List Stp → Gap
  | [], b => belowL site pre b
  | a :: as, [] => aboveL pre (a :: as)
  | a :: as, b :: bs => if a = b then findL site (pre ++ [a]) as bs else if 1 < b.1 - a.1 then ⟨pre, a.1 + 1, b.1 - 1⟩ else aboveL (pre ++ [a]) as
def findG (a b : List Stp) (site : Int) : Gap := if b = [] then aboveL [] a else findL site [] a b

/-- a path stands in a gap: it goes on from a step of it -/
def InGap (g : Gap) (q : List Stp) : Prop := ∃ d s r, g.least ≤ d ∧ d ≤ g.most ∧ q = g.path ++ (d, s) :: r

def betweenErr (a b : Mk) (site clock many : Int) : Int :=
  if checkM a ≠ 0 ∧ noneM a = false then checkM a
  else if checkM b ≠ 0 ∧ noneM b = false then checkM b
  else if ¬ (0 ≤ site ∧ site ≤ 4) ∨ ¬ (1 ≤ clock ∧ clock ≤ 10000) ∨ ¬ (1 ≤ many ∧ many ≤ 60) ∨ 10001 - many < clock then 3
  else if (noneM a = false ∧ noneM b = false) ∧ (0 ≤ ordM a b ∨ a.1 = b.1) then 4
  else if 8 < a.1.length ∨ 8 < b.1.length then 2
  else 0
def betweenGap (a b : Mk) (site many : Int) : Gap :=
  let g := findG a.1 b.1 site
  if g.most - g.least + 1 < many then ⟨g.path ++ [(g.least, site)], 1, 200⟩ else g
def betweenL (a b : Mk) (site clock many : Int) : List Mk :=
  let g := betweenGap a b site many
  (List.range many.toNat).map fun (i : Nat) => (g.path ++ [(g.least + (i : Int), site)], clock + (i : Int))

def okS (s : Stp) : Prop := 0 ≤ s.1 ∧ s.1 ≤ 200 ∧ 0 ≤ s.2 ∧ s.2 ≤ 4
theorem badS_false {s : Stp} : badS s = false ↔ okS s := by
  unfold badS okS
  simp only [Bool.or_eq_false_iff, Bool.not_eq_false', Bool.and_eq_true, decide_eq_true_eq]
  omega

theorem any_badS {p : List Stp} : p.any badS = false ↔ ∀ s ∈ p, okS s := by
  induction p with
  | nil => simp
  | cons s r ih => simp only [List.any_cons, Bool.or_eq_false_iff, ih, badS_false, List.mem_cons, forall_eq_or_imp]

theorem ordS_self (a : Stp) : ordS a a = 0 := ordS_zero.2 rfl
theorem ordP_self (a : List Stp) : ordP a a = 0 := ordP_zero.2 rfl
theorem ordP_app (p a b : List Stp) : ordP (p ++ a) (p ++ b) = ordP a b := by
  induction p with
  | nil => rfl
  | cons s r ih => simp [ordP, ordS_self, ih]
theorem ordP_pre (p : List Stp) (s : Stp) (r : List Stp) : ordP p (p ++ s :: r) = -1 := by
  have := ordP_app p [] (s :: r)
  simpa [ordP] using this
theorem ordP_digit {p : List Stp} {s t : Stp} {r u : List Stp} (h : s.1 < t.1) : ordP (p ++ s :: r) (p ++ t :: u) = -1 := by
  rw [ordP_app]
  have h1 : ordS s t = -1 := ordS_neg.2 (.inl h)
  simp [ordP, h1]

theorem inGap_more {g : Gap} {q : List Stp} (h : InGap g q) (r : List Stp) : InGap g (q ++ r) := by
  obtain ⟨d, s, u, h1, h2, rfl⟩ := h
  exact ⟨d, s, u ++ r, h1, h2, by simp⟩

theorem above_facts : ∀ (r pre : List Stp), (∀ s ∈ r, 0 ≤ s.1 ∧ s.1 ≤ 200) →
    (1 ≤ (aboveL pre r).least ∧ (aboveL pre r).least ≤ (aboveL pre r).most ∧ (aboveL pre r).most ≤ 200) ∧
    (aboveL pre r).path.length ≤ pre.length + r.length ∧ (∃ u, (aboveL pre r).path = pre ++ u ∧ ∀ s ∈ u, s ∈ r) ∧
    ∀ q, InGap (aboveL pre r) q → ordP (pre ++ r) q = -1
  | [], pre, _ => by
    refine ⟨by simp [aboveL], by simp [aboveL], ⟨[], by simp [aboveL]⟩, ?_⟩
    rintro q ⟨d, s, u, _, _, rfl⟩
    simpa [aboveL] using ordP_pre pre (d, s) u
  | t :: r, pre, h => by
    have ht := h t (by simp)
    by_cases hlt : t.1 < 200
    · have e : aboveL pre (t :: r) = ⟨pre, t.1 + 1, 200⟩ := by simp [aboveL, hlt]
      rw [e]
      refine ⟨by simp; omega, by simp, ⟨[], by simp⟩, ?_⟩
      rintro q ⟨d, s, u, h1, _, rfl⟩
      exact ordP_digit (by simp at h1 ⊢; omega)
    · have e : aboveL pre (t :: r) = aboveL (pre ++ [t]) r := by simp [aboveL, hlt]
      rw [e]
      obtain ⟨h1, h2, ⟨u, h3, h4⟩, h5⟩ := above_facts r (pre ++ [t]) (fun s hs => h s (by simp [hs]))
      refine ⟨h1, by simp at h2 ⊢; omega, ⟨t :: u, by rw [h3]; simp, fun s hs => ?_⟩, fun q hq => ?_⟩
      · rcases List.mem_cons.1 hs with rfl | hs
        · simp
        · simp [h4 s hs]
      · have := h5 q hq
        simpa using this

theorem below_facts (site : Int) : ∀ (r pre : List Stp), (∀ s ∈ r, 0 ≤ s.1 ∧ s.1 ≤ 200) → r ≠ [] → lastDigit r ≠ 0 →
    (1 ≤ (belowL site pre r).least ∧ (belowL site pre r).least ≤ (belowL site pre r).most ∧ (belowL site pre r).most ≤ 200) ∧
    (belowL site pre r).path.length ≤ pre.length + r.length ∧ (∃ u, (belowL site pre r).path = pre ++ u ∧ ∀ s ∈ u, s ∈ r ∨ s = (0, site)) ∧
    ∀ q, InGap (belowL site pre r) q → ordP q (pre ++ r) = -1 ∧ ordP pre q = -1
  | [], pre, _, h, _ => absurd rfl h
  | t :: r, pre, h, _, hl => by
    have ht := h t (by simp)
    by_cases h1 : 1 < t.1
    · have e : belowL site pre (t :: r) = ⟨pre, 1, t.1 - 1⟩ := by simp [belowL, h1]
      rw [e]
      refine ⟨by simp; omega, by simp, ⟨[], by simp⟩, ?_⟩
      rintro q ⟨d, s, u, _, h2, rfl⟩
      exact ⟨ordP_digit (by simp at h2 ⊢; omega), ordP_pre pre _ _⟩
    by_cases h2 : t.1 = 1
    · have e : belowL site pre (t :: r) = ⟨pre ++ [(0, site)], 1, 200⟩ := by simp [belowL, h2]
      rw [e]
      refine ⟨by simp, by simp, ⟨[(0, site)], by simp⟩, ?_⟩
      rintro q ⟨d, s, u, _, _, rfl⟩
      simp only [List.append_assoc, List.cons_append, List.nil_append]
      exact ⟨ordP_digit (by simp; omega), ordP_pre pre _ _⟩
    · have e : belowL site pre (t :: r) = belowL site (pre ++ [t]) r := by simp [belowL, h1, h2]
      rw [e]
      cases r with
      | nil => simp [lastDigit] at hl; omega
      | cons t' r' =>
        obtain ⟨h3, h4, ⟨u, h5, h6⟩, h7⟩ := below_facts site (t' :: r') (pre ++ [t]) (fun s hs => h s (by simp at hs ⊢; right; exact hs)) (by simp) (by simpa [lastDigit] using hl)
        refine ⟨h3, by simp at h4 ⊢; omega, ⟨t :: u, by rw [h5]; simp, fun s hs => ?_⟩, fun q hq => ?_⟩
        · rcases List.mem_cons.1 hs with rfl | hs
          · simp
          · rcases h6 s hs with h' | h'
            · left; simp at h' ⊢; right; exact h'
            · right; exact h'
        · obtain ⟨h8, h9⟩ := h7 q hq
          refine ⟨by simpa using h8, ?_⟩
          have hp := ordP_pre pre t []
          exact ordP_trans hp h9

theorem find_facts (site : Int) : ∀ (a b pre : List Stp), (∀ s ∈ a, 0 ≤ s.1 ∧ s.1 ≤ 200) → (∀ s ∈ b, 0 ≤ s.1 ∧ s.1 ≤ 200) →
    (b ≠ [] → lastDigit b ≠ 0) → ordP a b = -1 →
    (1 ≤ (findL site pre a b).least ∧ (findL site pre a b).least ≤ (findL site pre a b).most ∧ (findL site pre a b).most ≤ 200) ∧
    (findL site pre a b).path.length ≤ pre.length + max a.length b.length ∧ (∃ u, (findL site pre a b).path = pre ++ u ∧ ∀ s ∈ u, s ∈ a ∨ s ∈ b ∨ s = (0, site)) ∧
    ∀ q, InGap (findL site pre a b) q → ordP (pre ++ a) q = -1 ∧ ordP q (pre ++ b) = -1
  | [], b, pre, _, hb, hl, ho => by
    have hne : b ≠ [] := by rintro rfl; simp [ordP] at ho
    have e : findL site pre [] b = belowL site pre b := by cases b <;> rfl
    rw [e]
    obtain ⟨h1, h2, ⟨u, h3, h4⟩, h5⟩ := below_facts site b pre hb hne (hl hne)
    refine ⟨h1, by simpa using h2, ⟨u, h3, fun s hs => ?_⟩, fun q hq => ?_⟩
    · rcases h4 s hs with h | h
      · exact .inr (.inl h)
      · exact .inr (.inr h)
    · exact ⟨by simpa using (h5 q hq).2, (h5 q hq).1⟩
  | a :: as, [], pre, _, _, _, ho => by simp [ordP] at ho
  | a :: as, b :: bs, pre, ha, hb, hl, ho => by
    have ha0 := ha a (by simp)
    have hb0 := hb b (by simp)
    by_cases hab : a = b
    · subst hab
      have e : findL site pre (a :: as) (a :: bs) = findL site (pre ++ [a]) as bs := by simp [findL]
      rw [e]
      have ho' : ordP as bs = -1 := by simpa [ordP, ordS_self] using ho
      obtain ⟨h1, h2, ⟨u, h3, h4⟩, h5⟩ := find_facts site as bs (pre ++ [a]) (fun s hs => ha s (by simp [hs])) (fun s hs => hb s (by simp [hs]))
        (fun hne => by
          have := hl (by simp)
          cases bs with
          | nil => exact absurd rfl hne
          | cons x y => simpa [lastDigit] using this) ho'
      refine ⟨h1, ?_, ⟨a :: u, by rw [h3]; simp, fun s hs => ?_⟩, fun q hq => ?_⟩
      · simp only [List.length_append, List.length_cons, List.length_nil] at h2 ⊢; omega
      · rcases List.mem_cons.1 hs with rfl | hs
        · exact .inl (by simp)
        · rcases h4 s hs with h | h | h
          · exact .inl (by simp [h])
          · exact .inr (.inl (by simp [h]))
          · exact .inr (.inr h)
      · have := h5 q hq
        simpa using this
    · have hs : ordS a b = -1 := by
        by_cases h0 : ordS a b = 0
        · exact absurd (ordS_zero.1 h0) hab
        · simpa [ordP, h0] using ho
      have hd : a.1 ≤ b.1 := by rw [ordS_neg] at hs; omega
      by_cases h1 : 1 < b.1 - a.1
      · have e : findL site pre (a :: as) (b :: bs) = ⟨pre, a.1 + 1, b.1 - 1⟩ := by simp [findL, hab, h1]
        rw [e]
        refine ⟨by simp; omega, by simp, ⟨[], by simp⟩, ?_⟩
        rintro q ⟨d, s, u, h2, h3, rfl⟩
        simp only at h2 h3
        exact ⟨ordP_digit (by simp; omega), ordP_digit (by simp; omega)⟩
      · have e : findL site pre (a :: as) (b :: bs) = aboveL (pre ++ [a]) as := by simp [findL, hab, h1]
        rw [e]
        obtain ⟨h2, h3, ⟨u, h4, h5⟩, h6⟩ := above_facts as (pre ++ [a]) (fun s hs => ha s (by simp [hs]))
        refine ⟨h2, ?_, ⟨a :: u, by rw [h4]; simp, fun s hs => ?_⟩, fun q hq => ⟨?_, ?_⟩⟩
        · simp only [List.length_append, List.length_cons, List.length_nil] at h3 ⊢; omega
        · rcases List.mem_cons.1 hs with rfl | hs
          · exact .inl (by simp)
          · exact .inl (by simp [h5 s hs])
        · have := h6 q hq
          simpa using this
        · obtain ⟨d, s, r, _, _, rfl⟩ := hq
          rw [h4]
          simp only [List.append_assoc, List.cons_append, List.nil_append]
          rw [ordP_app]
          simp [ordP, hs]

/-- what the gap between two is: both may be none -/
theorem gap_facts (a b : List Stp) (site : Int) (ha : ∀ s ∈ a, 0 ≤ s.1 ∧ s.1 ≤ 200) (hb : ∀ s ∈ b, 0 ≤ s.1 ∧ s.1 ≤ 200)
    (hl : b ≠ [] → lastDigit b ≠ 0) (ho : b ≠ [] → ordP a b = -1) :
    (1 ≤ (findG a b site).least ∧ (findG a b site).least ≤ (findG a b site).most ∧ (findG a b site).most ≤ 200) ∧
    (findG a b site).path.length ≤ max a.length b.length ∧ (∀ s ∈ (findG a b site).path, s ∈ a ∨ s ∈ b ∨ s = (0, site)) ∧
    ∀ q, InGap (findG a b site) q → ordP a q = -1 ∧ (b ≠ [] → ordP q b = -1) := by
  unfold findG
  by_cases hne : b = []
  · rw [if_pos hne]
    obtain ⟨h1, h2, ⟨u, h3, h4⟩, h5⟩ := above_facts a [] ha
    refine ⟨h1, by simp at h2; omega, fun s hs => ?_, fun q hq => ⟨by simpa using h5 q hq, fun h => absurd hne h⟩⟩
    rw [h3] at hs
    exact .inl (h4 s (by simpa using hs))
  · rw [if_neg hne]
    obtain ⟨h1, h2, ⟨u, h3, h4⟩, h5⟩ := find_facts site a b [] ha hb hl (ho hne)
    refine ⟨h1, by simpa using h2, fun s hs => ?_, fun q hq => ?_⟩
    · rw [h3] at hs
      exact h4 s (by simpa using hs)
    · have := h5 q hq
      exact ⟨by simpa using this.1, fun _ => by simpa using this.2⟩

/-- the depth that is allowed -/
def deepM (a b : Mk) (many : Int) : Int := (max a.1.length b.1.length : Nat) + 1 + (if 1 < many then 1 else 0)
/-- is the mark at a place of a list what it must be? -/
def okAt (a b : Mk) (site clock many : Int) (l : List Mk) (i : Nat) : Bool :=
  let m := l.getD i ([], 0)
  decide (checkM m = 0) && decide (m.2 = clock + i) && decide (lastSite m.1 = site) && decide ((m.1.length : Int) ≤ deepM a b many) &&
  (decide (i = 0) || decide (ordM (l.getD (i - 1) ([], 0)) m < 0)) && (noneM a || decide (ordM a m < 0)) && (noneM b || decide (ordM m b < 0))
def isBetweenB (a b : Mk) (site clock many : Int) (l : List Mk) : Bool :=
  decide ((l.length : Int) = many) && (List.range l.length).all fun i => okAt a b site clock many l i

theorem lastDigit_app (p : List Stp) (s : Stp) : lastDigit (p ++ [s]) = s.1 := by simp [lastDigit]
theorem lastSite_app (p : List Stp) (s : Stp) : lastSite (p ++ [s]) = s.2 := by simp [lastSite]
theorem noneM_true {m : Mk} : noneM m = true ↔ m = ([], 0) := by
  rcases m with ⟨p, c⟩
  simp [noneM]
theorem noneM_false {m : Mk} (h : noneM m = false) : m ≠ ([], 0) := fun e => by rw [noneM_true.2 e] at h; cases h

theorem betweenErr_ok {a b : Mk} {site clock many : Int} (h : betweenErr a b site clock many = 0) :
    (noneM a = true ∨ checkM a = 0) ∧ (noneM b = true ∨ checkM b = 0) ∧ (0 ≤ site ∧ site ≤ 4) ∧ (1 ≤ clock ∧ clock ≤ 10000) ∧ (1 ≤ many ∧ many ≤ 60) ∧ clock + many ≤ 10001 ∧
    (noneM a = false → noneM b = false → ordM a b = -1 ∧ a.1 ≠ b.1) ∧ a.1.length ≤ 8 ∧ b.1.length ≤ 8 := by
  unfold betweenErr at h
  split at h
  · rename_i h1; exact absurd h h1.1
  split at h
  · rename_i h1; exact absurd h h1.1
  split at h
  · omega
  split at h
  · omega
  split at h
  · omega
  rename_i h1 h2 h3 h4 h5
  refine ⟨?_, ?_, by omega, by omega, by omega, by omega, fun ha hb => ?_, by omega, by omega⟩
  · cases hn : noneM a with
    | true => exact .inl rfl
    | false => right; apply Classical.byContradiction; intro h6; exact h1 ⟨h6, hn⟩
  · cases hn : noneM b with
    | true => exact .inl rfl
    | false => right; apply Classical.byContradiction; intro h6; exact h2 ⟨h6, hn⟩
  · have := ordM_range a b
    refine ⟨?_, fun e => h4 ⟨⟨ha, hb⟩, .inr e⟩⟩
    have : ¬ 0 ≤ ordM a b := fun e => h4 ⟨⟨ha, hb⟩, .inl e⟩
    omega

theorem right_ofB (a : Mk) (h : noneM a = true ∨ checkM a = 0) : (∀ s ∈ a.1, okS s) ∧ (a.1 ≠ [] → lastDigit a.1 ≠ 0) ∧ (noneM a = false → a.1 ≠ []) := by
  rcases h with h | h
  · have := noneM_true.1 h
    subst this
    simp [noneM]
  · obtain ⟨_, h2, h3, h4, _⟩ := checkM_ok.1 h
    exact ⟨any_badS.1 h3, fun _ => h4, fun _ => h2⟩

/-- WHAT IS MADE LIES BETWEEN -/
theorem between_is {a b : Mk} {site clock many : Int} (h : betweenErr a b site clock many = 0) :
    isBetweenB a b site clock many (betweenL a b site clock many) = true := by
  obtain ⟨ha, hb, hs, hc, hm, hcm, hab, hla, hlb⟩ := betweenErr_ok h
  obtain ⟨ra, _, na⟩ := right_ofB a ha
  obtain ⟨rb, lb, nb⟩ := right_ofB b hb
  have hord : b.1 ≠ [] → ordP a.1 b.1 = -1 := by
    intro hne
    cases hna : noneM a with
    | true =>
      have := noneM_true.1 hna
      subst this
      cases hb1 : b.1 with
      | nil => exact absurd hb1 hne
      | cons x y => simp [ordP]
    | false =>
      cases hnb : noneM b with
      | true => have := noneM_true.1 hnb; subst this; simp at hne
      | false =>
        obtain ⟨h1, h2⟩ := hab hna hnb
        unfold ordM at h1
        split at h1
        · rename_i h3; exact absurd (ordP_zero.1 h3) h2
        · exact h1
  obtain ⟨hg1, hg2, hg3, hg4⟩ := gap_facts a.1 b.1 site (fun s hs => ⟨(ra s hs).1, (ra s hs).2.1⟩) (fun s hs => ⟨(rb s hs).1, (rb s hs).2.1⟩) lb hord
  -- the gap that is used at last
  have key : ∃ g : Gap, betweenGap a b site many = g ∧ 1 ≤ g.least ∧ g.least + many ≤ 201 ∧ (g.path.length + 1 : Int) ≤ deepM a b many ∧ (∀ s ∈ g.path, okS s) ∧
      ∀ (d : Int) (u : List Stp), g.least ≤ d → d < g.least + many → InGap (findG a.1 b.1 site) (g.path ++ (d, site) :: u) := by
    have okp : ∀ s ∈ (findG a.1 b.1 site).path, okS s := fun s hs' => by
      rcases hg3 s hs' with h1 | h1 | h1
      · exact ra s h1
      · exact rb s h1
      · subst h1; exact ⟨by simp, by simp, hs.1, hs.2⟩
    by_cases hw : (findG a.1 b.1 site).most - (findG a.1 b.1 site).least + 1 < many
    · refine ⟨⟨(findG a.1 b.1 site).path ++ [((findG a.1 b.1 site).least, site)], 1, 200⟩, by simp [betweenGap, hw], by simp, by simp; omega, ?_, ?_, ?_⟩
      · unfold deepM
        rw [if_pos (by omega)]
        simp only [List.length_append, List.length_cons, List.length_nil]
        omega
      · intro s hs'
        rcases List.mem_append.1 hs' with h1 | h1
        · exact okp s h1
        · have : s = ((findG a.1 b.1 site).least, site) := by simpa using h1
          subst this
          exact ⟨by simp; omega, by simp; omega, hs.1, hs.2⟩
      · intro d u _ _
        exact ⟨_, site, (d, site) :: u, Int.le_refl _, by omega, by simp⟩
    · refine ⟨findG a.1 b.1 site, by simp [betweenGap, hw], hg1.1, by omega, ?_, okp, fun d u h1 h2 => ⟨d, site, u, h1, by omega, rfl⟩⟩
      unfold deepM
      split <;> omega
  obtain ⟨g, hg, hl1, hl2, hdeep, hok, hin⟩ := key
  have hget : ∀ i : Nat, i < many.toNat → (betweenL a b site clock many).getD i ([], 0) = (g.path ++ [(g.least + (i : Int), site)], clock + (i : Int)) := by
    intro i hi
    unfold betweenL
    rw [hg]
    simp [List.getD, List.getElem?_map, List.getElem?_range hi]
  have hlen : (betweenL a b site clock many).length = many.toNat := by simp [betweenL]
  unfold isBetweenB
  rw [hlen]
  simp only [Bool.and_eq_true, decide_eq_true_eq, List.all_eq_true, List.mem_range]
  refine ⟨by omega, fun i hi => ?_⟩
  unfold okAt
  rw [hget i hi]
  have hgap : InGap (findG a.1 b.1 site) (g.path ++ [(g.least + (i : Int), site)]) := hin _ [] (by omega) (by omega)
  obtain ⟨h1, h2⟩ := hg4 _ hgap
  simp only [Bool.and_eq_true, decide_eq_true_eq, Bool.or_eq_true]
  refine ⟨⟨⟨⟨⟨⟨?_, by simp⟩, ?_⟩, ?_⟩, ?_⟩, ?_⟩, ?_⟩
  · rw [checkM_ok]
    refine ⟨?_, by simp, ?_, by rw [lastDigit_app]; simp; omega, by simp; omega, by simp; omega⟩
    · have : deepM a b many ≤ 10 := by unfold deepM; split <;> omega
      simp only [List.length_append, List.length_cons, List.length_nil]
      omega
    · rw [any_badS]
      intro s hs'
      rcases List.mem_append.1 hs' with h3 | h3
      · exact hok s h3
      · have : s = (g.least + (i : Int), site) := by simpa using h3
        subst this
        exact ⟨by simp; omega, by simp; omega, hs.1, hs.2⟩
  · rw [lastSite_app]
  · simp only [List.length_append, List.length_cons, List.length_nil]
    omega
  · by_cases h0 : i = 0
    · exact .inl h0
    · right
      rw [hget (i - 1) (by omega)]
      unfold ordM
      have : ordP (g.path ++ [(g.least + ((i - 1 : Nat) : Int), site)]) (g.path ++ [(g.least + (i : Int), site)]) = -1 := ordP_digit (by simp; omega)
      simp [this]
  · cases hna : noneM a with
    | true => exact .inl rfl
    | false => right; unfold ordM; simp [h1]
  · cases hnb : noneM b with
    | true => exact .inl rfl
    | false => right; unfold ordM; simp [h2 (nb hnb)]

end Cp
/- Plain facts on runs: atoms of runs are the atoms that they were; a run cut in two. No program in sight. -/
namespace Cp

theorem atomsR_len (r : Rn) : (atomsR r).length = r.2.length := by simp [atomsR]
theorem atomsR_cons (m : Mk) (s : UInt8) (u : Tx) : atomsR (m, s :: u) = (m, s) :: atomsR (afterM m 1, u) := by
  unfold atomsR
  simp only [List.length_cons, List.range_succ_eq_map, List.map_cons, List.map_map]
  congr 1
  · simp [afterM_zero]
  · refine List.map_congr_left (fun i _ => ?_)
    simp [afterM_add, Int.add_comm]
theorem atomsR_app : ∀ (t : Tx) (m : Mk) (u : Tx), atomsR (m, t ++ u) = atomsR (m, t) ++ atomsR (afterM m t.length, u)
  | [], m, u => by simp [afterM_zero]; rfl
  | s :: t, m, u => by
    rw [List.cons_append, atomsR_cons, atomsR_cons, atomsR_app t (afterM m 1) u, afterM_add, List.cons_append]
    simp [Int.add_comm]
theorem atomsR_one (m : Mk) (s : UInt8) : atomsR (m, [s]) = [(m, s)] := by rw [atomsR_cons]; rfl
theorem atomsR_snoc (m : Mk) (t : Tx) (s : UInt8) : atomsR (m, t ++ [s]) = atomsR (m, t) ++ [(afterM m t.length, s)] := by rw [atomsR_app, atomsR_one]
theorem checkR_ok {r : Rn} : checkR r = 0 ↔ checkM r.1 = 0 ∧ r.2 ≠ [] ∧ r.2.length ≤ 60 ∧ signsB r.2 = true ∧ checkM (afterM r.1 ((r.2.length : Int) - 1)) = 0 := by
  unfold checkR
  constructor
  · intro h
    by_cases h1 : checkM r.1 ≠ 0
    · rw [if_pos h1] at h; exact absurd h h1
    rw [if_neg h1] at h
    by_cases h2 : r.2 = []
    · rw [if_pos h2] at h; omega
    rw [if_neg h2] at h
    by_cases h3 : 60 < r.2.length
    · rw [if_pos h3] at h; omega
    rw [if_neg h3] at h
    by_cases h4 : signsB r.2 = false
    · rw [if_pos h4] at h; omega
    rw [if_neg h4] at h
    exact ⟨by omega, h2, by omega, by simpa using h4, (nextM_ok.1 h).2.2.2⟩
  · rintro ⟨h1, h2, h3, h4, h5⟩
    have hp := List.length_pos_iff.2 h2
    rw [if_neg (by omega), if_neg h2, if_neg (by omega), if_neg (by simp [h4])]
    exact nextM_ok.2 ⟨h1, by omega, by omega, h5⟩

/-- a mark goes on a run -/
def JoinR (r : Rn) (m : Mk) : Prop := r.2.length < 60 ∧ ordM (afterM r.1 r.2.length) m = 0
/-- no two runs side by side could be one -/
def Apart (q : List Rn) : Prop := ∀ (i : Nat) (r r' : Rn), q[i]? = some r → q[i + 1]? = some r' → ¬ JoinR r r'.1
theorem snoc_get {α : Type} {ys : List α} {y z : α} {i : Nat} (h : (ys ++ [y])[i]? = some z) : i < ys.length ∧ ys[i]? = some z ∨ i = ys.length ∧ z = y := by
  by_cases h1 : i < ys.length
  · rw [List.getElem?_append_left h1] at h; exact .inl ⟨h1, h⟩
  · rw [List.getElem?_append_right (by omega)] at h
    have h2 : i - ys.length = 0 := by
      obtain ⟨h3, _⟩ := List.getElem?_eq_some_iff.1 h
      have h4 : i - ys.length < 1 := h3
      omega
    rw [h2] at h
    exact .inr ⟨by omega, by simpa using h.symm⟩
theorem apart_set {ys : List Rn} {y y' : Rn} (h : Apart (ys ++ [y])) (e : y'.1 = y.1) : Apart (ys ++ [y']) := by
  intro i r r' h1 h2
  rcases snoc_get h1 with ⟨g1, g2⟩ | ⟨rfl, rfl⟩
  · have k1 : (ys ++ [y])[i]? = some r := by rw [List.getElem?_append_left g1]; exact g2
    rcases snoc_get h2 with ⟨g3, g4⟩ | ⟨g3, rfl⟩
    · exact h i r r' k1 (by rw [List.getElem?_append_left g3]; exact g4)
    · rw [e]; exact h i r y k1 (by rw [g3]; simp)
  · rcases snoc_get h2 with ⟨g3, _⟩ | ⟨g3, _⟩ <;> omega
theorem apart_add {ys : List Rn} {y z : Rn} (h : Apart (ys ++ [y])) (e : ¬ JoinR y z.1) : Apart (ys ++ [y] ++ [z]) := by
  intro i r r' h1 h2
  rcases snoc_get h2 with ⟨g1, g2⟩ | ⟨g1, rfl⟩
  · rcases snoc_get h1 with ⟨_, g4⟩ | ⟨g3, _⟩
    · exact h i r r' g4 g2
    · omega
  · have hi : i = ys.length := by simpa using g1
    subst hi
    have : y = r := by simpa using h1
    subst this; exact e
theorem apart_one (y : Rn) : Apart [y] := by
  intro i r r' _ h2
  simp at h2
def Inv (q : List Rn) (l : List At) : Prop := q.flatMap atomsR = l ∧ (∀ r ∈ q, checkR r = 0) ∧ Apart q
theorem checkR_one {a : At} (h1 : checkM a.1 = 0) (h2 : signB a.2 = true) : checkR (a.1, [a.2]) = 0 :=
  checkR_ok.2 ⟨h1, by simp, by simp, by simp [signsB, h2], by simp [afterM_zero, h1]⟩
theorem inv_step {q : List Rn} {l : List At} {a : At} (h : Inv q l) (h1 : checkM a.1 = 0) (h2 : signB a.2 = true) : Inv (runStep q a) (l ++ [a]) := by
  obtain ⟨e, hc, ha⟩ := h
  by_cases hq : q = []
  · subst hq
    have : l = [] := by simpa using e.symm
    subst this
    refine ⟨?_, ?_, apart_one _⟩
    · show [(a.1, [a.2])].flatMap atomsR = [a]
      simp [atomsR_one]
    · intro r hr
      have : r = (a.1, [a.2]) := by simpa [runStep] using hr
      subst this; exact checkR_one h1 h2
  · obtain ⟨ys, y, rfl⟩ := snoc_of hq
    have hl : (ys ++ [y]).getLast? = some y := by simp
    have hy := hc y (by simp)
    obtain ⟨c1, c2, c3, c4, c5⟩ := checkR_ok.1 hy
    unfold runStep
    rw [hl]
    simp only
    by_cases hj : y.2.length < 60 ∧ ordM (afterM y.1 y.2.length) a.1 = 0
    · rw [if_pos hj]
      have hm := ordM_zero.1 hj.2
      rw [List.dropLast_concat]
      refine ⟨?_, ?_, apart_set ha rfl⟩
      · rw [← e, List.flatMap_append, List.flatMap_append, List.append_assoc]
        congr 1
        obtain ⟨m, t⟩ := y
        simp only [List.flatMap_cons, List.flatMap_nil, List.append_nil]
        rw [atomsR_snoc]
        simp only at hm
        rw [hm]
      · intro r hr
        rcases List.mem_append.1 hr with hr | hr
        · exact hc r (by simp [hr])
        · have : r = (y.1, y.2 ++ [a.2]) := by simpa using hr
          subst this
          refine checkR_ok.2 ⟨c1, by simp, by simp; omega, by rw [signsB_app, c4]; simp [signsB, h2], ?_⟩
          have : ((y.2 ++ [a.2]).length : Int) - 1 = y.2.length := by simp
          simp only [this, hm]; exact h1
    · rw [if_neg hj]
      refine ⟨?_, ?_, apart_add ha hj⟩
      · rw [List.flatMap_append, e]; simp [atomsR_one]
      · intro r hr
        rcases List.mem_append.1 hr with hr | hr
        · exact hc r hr
        · have : r = (a.1, [a.2]) := by simpa using hr
          subst this; exact checkR_one h1 h2
theorem inv_fold : ∀ (l : List At) (q : List Rn) (p : List At), Inv q p → (∀ a ∈ l, checkM a.1 = 0 ∧ signB a.2 = true) → Inv (l.foldl runStep q) (p ++ l)
  | [], q, p, h, _ => by simpa using h
  | a :: l, q, p, h, hl => by
    have h1 := hl a (by simp)
    have := inv_fold l (runStep q a) (p ++ [a]) (inv_step h h1.1 h1.2) (fun x hx => hl x (by simp [hx]))
    simpa using this
theorem checkA_right {l : List At} (h : checkA l = 0) : ∀ a ∈ l, checkM a.1 = 0 ∧ signB a.2 = true := by
  unfold checkA at h
  by_cases h1 : 300 < l.length
  · rw [if_pos h1] at h; omega
  · rw [if_neg h1] at h; exact (checkAF_ok.1 h).1
/-- atoms of runs are the atoms that they were -/
theorem runs_back {l : List At} (h : checkA l = 0) : Inv (runsA l) l := by
  have := inv_fold l [] [] ⟨rfl, by simp, by intro i r r' h1; simp at h1⟩ (checkA_right h)
  rw [List.nil_append] at this; exact this
theorem sortedA_idx : ∀ {l : List At}, (∀ (i : Nat) (a b : At), l[i]? = some a → l[i + 1]? = some b → ordM a.1 b.1 = -1) → SortedA l
  | [], _ => trivial
  | [_], _ => trivial
  | a :: b :: r, h => ⟨h 0 a b rfl rfl, sortedA_idx (fun i x y h1 h2 => h (i + 1) x y (by simpa using h1) (by simpa using h2))⟩
theorem atomsR_get {r : Rn} {i : Nat} {a : At} (h : (atomsR r)[i]? = some a) : ∃ h : i < r.2.length, a = (afterM r.1 i, r.2[i]) := by
  have hi : i < r.2.length := by
    obtain ⟨h1, _⟩ := List.getElem?_eq_some_iff.1 h
    rwa [atomsR_len] at h1
  refine ⟨hi, ?_⟩
  unfold atomsR at h
  rw [List.getElem?_map, List.getElem?_range hi] at h
  simpa [hi] using h.symm
/-- the atoms of a run are right -/
theorem atoms_right {r : Rn} (h : checkR r = 0) : checkA (atomsR r) = 0 := by
  obtain ⟨c1, c2, c3, c4, c5⟩ := checkR_ok.1 h
  have hm : r.1.1 ≠ [] := (checkM_ok.1 c1).2.1
  unfold checkA
  rw [if_neg (by rw [atomsR_len]; omega)]
  refine checkAF_ok.2 ⟨?_, sortedA_idx ?_, by simp⟩
  · intro a ha
    obtain ⟨i, hi⟩ := List.getElem?_of_mem ha
    obtain ⟨h1, rfl⟩ := atomsR_get hi
    refine ⟨check_between c1 c5 (by omega) (by omega), ?_⟩
    exact List.all_eq_true.1 c4 _ (List.getElem_mem h1)
  · intro i a b h1 h2
    obtain ⟨_, rfl⟩ := atomsR_get h1
    obtain ⟨_, rfl⟩ := atomsR_get h2
    exact afterM_lt hm (by omega)
theorem runsA_snoc (l : List At) (a : At) : runsA (l ++ [a]) = runStep (runsA l) a := by simp [runsA]
theorem runs_oneL : ∀ (n : Nat) (m : Mk) (t : Tx), t.length = n + 1 → n < 60 → runsA (atomsR (m, t)) = [(m, t)]
  | 0, m, t, h, _ => by
    obtain ⟨s, rfl⟩ := List.length_eq_one_iff.1 h
    rw [atomsR_one]; rfl
  | n + 1, m, t, h, hn => by
    have ht : t ≠ [] := by rintro rfl; simp at h
    obtain ⟨u, s, rfl⟩ := snoc_of ht
    have hu : u.length = n + 1 := by simpa using h
    rw [atomsR_snoc, runsA_snoc, runs_oneL n m u hu (by omega)]
    unfold runStep
    simp only [List.getLast?_singleton]
    rw [if_pos ⟨by omega, ordM_self _⟩]
    rfl
/-- the atoms of a run are one run -/
theorem runs_one {r : Rn} (h : checkR r = 0) : runsA (atomsR r) = [r] := by
  obtain ⟨_, c2, c3, _, _⟩ := checkR_ok.1 h
  have hp := List.length_pos_iff.2 c2
  exact runs_oneL (r.2.length - 1) r.1 r.2 (by omega) (by omega)
/-- a run cut in two -/
theorem run_cut {r : Rn} (h : checkR r = 0) {c : Nat} (h1 : 1 ≤ c) (h2 : c < r.2.length) :
    (nextM r.1 c).2 = 0 ∧ (nextM r.1 c).1 = afterM r.1 c ∧ checkR (r.1, r.2.take c) = 0 ∧ checkR (afterM r.1 c, r.2.drop c) = 0 ∧
      atomsR (r.1, r.2.take c) ++ atomsR (afterM r.1 c, r.2.drop c) = atomsR r := by
  obtain ⟨c1, c2, c3, c4, c5⟩ := checkR_ok.1 h
  have hm : checkM (afterM r.1 c) = 0 := check_between c1 c5 (by omega) (by omega)
  have hn : (nextM r.1 c).2 = 0 := nextM_ok.2 ⟨c1, by omega, by omega, hm⟩
  have hs : signsB (r.2.take c) = true ∧ signsB (r.2.drop c) = true := by
    have : signsB (r.2.take c ++ r.2.drop c) = true := by rw [List.take_append_drop]; exact c4
    rw [signsB_app, Bool.and_eq_true] at this; exact this
  have hl : (r.2.take c).length = c := by rw [List.length_take]; omega
  refine ⟨hn, nextM_val hn, checkR_ok.2 ⟨c1, ?_, ?_, hs.1, ?_⟩, checkR_ok.2 ⟨hm, ?_, ?_, hs.2, ?_⟩, ?_⟩
  · intro e; have h9 : (r.2.take c).length = 0 := by simp only at e; rw [e]; rfl
    omega
  · simp only; omega
  · simp only [hl]; exact check_between c1 c5 (by omega) (by omega)
  · intro e; have h9 : (r.2.drop c).length = 0 := by simp only at e; rw [e]; rfl
    rw [List.length_drop] at h9; omega
  · simp only [List.length_drop]; omega
  · simp only [List.length_drop, afterM_add]
    rw [show (c : Int) + (((r.2.length - c : Nat) : Int) - 1) = (r.2.length : Int) - 1 by omega]; exact c5
  · have := atomsR_app (r.2.take c) r.1 (r.2.drop c)
    rw [List.take_append_drop, hl] at this
    exact this.symm

end Cp
