/- Plain facts on marks: their order, what is right, and the gap between two of them. No program in sight. -/
set_option linter.unusedVariables false
set_option linter.unusedSimpArgs false
namespace Cp

abbrev Stp := Int × Int
abbrev Mk := List Stp × Int

def cmpI (a b : Int) : Int := if a < b then -1 else if b < a then 1 else 0
def ordS (a b : Stp) : Int := if cmpI a.1 b.1 = 0 then cmpI a.2 b.2 else cmpI a.1 b.1
def ordP : List Stp → List Stp → Int
  | [], [] => 0
  | [], _ :: _ => -1
  | _ :: _, [] => 1
  | a :: as, b :: bs => if ordS a b = 0 then ordP as bs else ordS a b
def ordM (a b : Mk) : Int := if ordP a.1 b.1 = 0 then cmpI a.2 b.2 else ordP a.1 b.1

theorem cmpI_zero {a b : Int} : cmpI a b = 0 ↔ a = b := by unfold cmpI; split <;> (try split) <;> omega
theorem ordS_zero {a b : Stp} : ordS a b = 0 ↔ a = b := by
  unfold ordS
  rcases a with ⟨a1, a2⟩; rcases b with ⟨b1, b2⟩
  simp only [Prod.mk.injEq]
  split
  · rename_i h; rw [cmpI_zero] at h ⊢; simp [h]
  · rename_i h; rw [cmpI_zero] at h; constructor
    · intro h'; rw [cmpI_zero] at h'; exact absurd h' h
    · intro h'; exact absurd h'.1 h
theorem ordP_zero : ∀ {a b : List Stp}, ordP a b = 0 ↔ a = b
  | [], [] => by simp [ordP]
  | [], _ :: _ => by simp [ordP]
  | _ :: _, [] => by simp [ordP]
  | a :: as, b :: bs => by
    unfold ordP
    split
    · rename_i h; rw [ordS_zero] at h; rw [ordP_zero (a := as) (b := bs)]; simp [h]
    · rename_i h; constructor
      · intro h'; exact absurd h' h
      · intro h'; rw [ordS_zero] at h; simp at h'; exact absurd h'.1 h
theorem ordM_zero {a b : Mk} : ordM a b = 0 ↔ a = b := by
  unfold ordM
  rcases a with ⟨a1, a2⟩; rcases b with ⟨b1, b2⟩
  simp only [Prod.mk.injEq]
  split
  · rename_i h; rw [ordP_zero] at h; rw [cmpI_zero]; simp [h]
  · rename_i h; constructor
    · intro h'; exact absurd h' h
    · intro h'; rw [ordP_zero] at h; exact absurd h'.1 h
theorem ordM_self (a : Mk) : ordM a a = 0 := ordM_zero.2 rfl
/-- what is wrong with a mark -/
def badS (s : Stp) : Bool := !(decide (0 ≤ s.1) && decide (s.1 ≤ 200)) || !(decide (0 ≤ s.2) && decide (s.2 ≤ 4))
def lastDigit (p : List Stp) : Int := (p.getLast?.map (·.1)).getD 0
def checkM (m : Mk) : Int :=
  if 10 < m.1.length then 2
  else if m.1 = [] then 1
  else if m.1.any badS then 3
  else if lastDigit m.1 = 0 ∨ ¬ (1 ≤ m.2 ∧ m.2 ≤ 10000) then 3
  else 0
theorem checkM_ok {m : Mk} : checkM m = 0 ↔ m.1.length ≤ 10 ∧ m.1 ≠ [] ∧ m.1.any badS = false ∧ lastDigit m.1 ≠ 0 ∧ 1 ≤ m.2 ∧ m.2 ≤ 10000 := by
  unfold checkM
  split
  · constructor
    · intro h; omega
    · intro h; omega
  split
  · rename_i h; constructor
    · intro h; omega
    · intro h'; exact absurd h h'.2.1
  split
  · rename_i h; constructor
    · intro h; omega
    · intro h'; rw [h] at h'; simp at h'
  split
  · rename_i h; constructor
    · intro h; omega
    · intro h'; omega
  · rename_i h1 h2 h3 h4
    simp only [true_iff]
    refine ⟨by omega, h2, by simpa using h3, by omega, by omega, by omega⟩

/-- the mark so many behind one -/
def addLast (p : List Stp) (by_ : Int) : List Stp :=
  match p with
  | [] => []
  | [s] => [(s.1 + by_, s.2)]
  | s :: r => s :: addLast r by_
def afterM (m : Mk) (k : Int) : Mk := (addLast m.1 k, m.2 + k)
def nextM (m : Mk) (k : Int) : Mk × Int :=
  if checkM m ≠ 0 then (([], 0), checkM m)
  else if k < 0 ∨ 60 < k then (([], 0), 3)
  else if checkM (afterM m k) ≠ 0 then (([], 0), 3)
  else (afterM m k, 0)
def noneM (m : Mk) : Bool := m.1.isEmpty && decide (m.2 = 0)

theorem addLast_snoc (p : List Stp) (s : Stp) (k : Int) : addLast (p ++ [s]) k = p ++ [(s.1 + k, s.2)] := by
  induction p with
  | nil => rfl
  | cons a r ih =>
    cases r with
    | nil => rfl
    | cons b r' => simp only [List.cons_append, addLast] at ih ⊢; rw [ih]
theorem snoc_of {α : Type} {p : List α} (h : p ≠ []) : ∃ q s, p = q ++ [s] := ⟨p.dropLast, p.getLast h, (List.dropLast_concat_getLast h).symm⟩
theorem lastDigit_snoc (q : List Stp) (s : Stp) : lastDigit (q ++ [s]) = s.1 := by simp [lastDigit]
theorem badS_ok {s : Stp} : badS s = false ↔ (0 ≤ s.1 ∧ s.1 ≤ 200 ∧ 0 ≤ s.2 ∧ s.2 ≤ 4) := by
  unfold badS
  simp only [Bool.or_eq_false_iff, Bool.not_eq_false', Bool.and_eq_true, decide_eq_true_eq]
  omega
theorem any_snoc_badS (q : List Stp) (s : Stp) : (q ++ [s]).any badS = (q.any badS || badS s) := by simp
theorem nextM_ok {m : Mk} {k : Int} : (nextM m k).2 = 0 ↔ checkM m = 0 ∧ 0 ≤ k ∧ k ≤ 60 ∧ checkM (afterM m k) = 0 := by
  unfold nextM
  by_cases h1 : checkM m ≠ 0
  · rw [if_pos h1]; simp only; constructor
    · intro h; exact absurd h h1
    · intro h; exact absurd h.1 h1
  rw [if_neg h1]
  by_cases h2 : k < 0 ∨ 60 < k
  · rw [if_pos h2]; simp only; constructor
    · intro h; omega
    · intro h; omega
  rw [if_neg h2]
  by_cases h3 : checkM (afterM m k) ≠ 0
  · rw [if_pos h3]; simp only; constructor
    · intro h; omega
    · intro h; exact absurd h.2.2.2 h3
  rw [if_neg h3]
  simp only [true_iff]
  exact ⟨by omega, by omega, by omega, by omega⟩
theorem nextM_val {m : Mk} {k : Int} (h : (nextM m k).2 = 0) : (nextM m k).1 = afterM m k := by
  obtain ⟨h1, h2, h3, h4⟩ := nextM_ok.1 h
  unfold nextM
  rw [if_neg (by omega), if_neg (by omega), if_neg (by omega)]
theorem nextM_err {m : Mk} {k : Int} (h : (nextM m k).2 ≠ 0) : (nextM m k).1 = ([], 0) := by
  unfold nextM at h ⊢
  split
  · rfl
  split
  · rfl
  split
  · rfl
  · rename_i h1 h2 h3
    rw [if_neg h1, if_neg h2, if_neg h3] at h
    exact absurd rfl h

end Cp
/- Plain facts on texts, their edits, and the shortest way from one text to another. No program in sight. -/
namespace Cp

abbrev Tx := List UInt8
def signB (c : UInt8) : Bool := decide (32 ≤ (c.toNat : Int)) && decide ((c.toNat : Int) ≤ 126)
def signsB (s : Tx) : Bool := s.all signB
/-- how many signs of both are the same, in order, at most -/
def lcs : Tx → Tx → Nat
  | [], _ => 0
  | _ :: _, [] => 0
  | x :: xs, y :: ys => if x = y then 1 + lcs xs ys else max (lcs xs (y :: ys)) (lcs (x :: xs) ys)
termination_by a b => a.length + b.length

/-- a way from one text to another, with so many signs taken and put -/
inductive Way : Tx → Tx → Nat → Prop
  | nil : Way [] [] 0
  | keep {a b n} (x : UInt8) : Way a b n → Way (x :: a) (x :: b) n
  | del {a b n} (x : UInt8) : Way a b n → Way (x :: a) b (n + 1)
  | ins {a b n} (x : UInt8) : Way a b n → Way a (x :: b) (n + 1)

theorem Way.symm {a b : Tx} {n : Nat} (h : Way a b n) : Way b a n := by
  induction h with
  | nil => exact .nil
  | keep x _ ih => exact .keep x ih
  | del x _ ih => exact .ins x ih
  | ins x _ ih => exact .del x ih

theorem Way.trans {a c : Tx} {m : Nat} (h : Way a c m) : ∀ {b : Tx} {n : Nat}, Way c b n → ∃ k, k ≤ m + n ∧ Way a b k := by
  induction h with
  | nil => intro b n h; exact ⟨n, by omega, h⟩
  | @keep a c m x h ih =>
    intro b n h2
    generalize hc : x :: c = c2 at h2
    induction h2 with
    | nil => cases hc
    | keep y h3 =>
      injection hc with h4 h5
      subst h4; subst h5
      obtain ⟨k, hk, hw⟩ := ih h3
      exact ⟨k, hk, .keep x hw⟩
    | del y h3 =>
      injection hc with h4 h5
      subst h4; subst h5
      obtain ⟨k, hk, hw⟩ := ih h3
      exact ⟨k + 1, by omega, .del x hw⟩
    | ins y h3 ih3 =>
      obtain ⟨k, hk, hw⟩ := ih3 hc
      exact ⟨k + 1, by omega, .ins y hw⟩
  | @del a c m x h ih =>
    intro b n h2
    obtain ⟨k, hk, hw⟩ := ih h2
    exact ⟨k + 1, by omega, .del x hw⟩
  | @ins a c m x h ih =>
    intro b n h2
    generalize hc : x :: c = c2 at h2
    induction h2 with
    | nil => cases hc
    | keep y h3 =>
      injection hc with h4 h5
      subst h4; subst h5
      obtain ⟨k, hk, hw⟩ := ih h3
      exact ⟨k + 1, by omega, .ins x hw⟩
    | del y h3 =>
      injection hc with h4 h5
      subst h4; subst h5
      obtain ⟨k, hk, hw⟩ := ih h3
      exact ⟨k, by omega, hw⟩
    | ins y h3 ih3 =>
      obtain ⟨k, hk, hw⟩ := ih3 hc
      exact ⟨k + 1, by omega, .ins y hw⟩

/-! ### the edits that the walk makes -/
/-- the signs that stay -/
def stays : Tx → Tx → Tx
  | [], _ => []
  | _ :: _, [] => []
  | x :: xs, y :: ys => if x = y then x :: stays xs ys else if lcs (x :: xs) ys ≤ lcs xs (y :: ys) then stays xs (y :: ys) else stays (x :: xs) ys
termination_by a b => a.length + b.length
end Cp
/- Plain facts on atoms and runs. No program in sight. -/
namespace Cp
abbrev At := Mk × UInt8
abbrev Rn := Mk × Tx

def checkR (r : Rn) : Int :=
  if checkM r.1 ≠ 0 then checkM r.1
  else if r.2 = [] then 1
  else if 60 < r.2.length then 2
  else if signsB r.2 = false then 3
  else (nextM r.1 (r.2.length - 1)).2
end Cp
/- Plain facts on the marks between two others: the gap that is found, and what is made in it. No program in sight. -/
namespace Cp

end Cp
/- Plain facts on runs: atoms of runs are the atoms that they were; a run cut in two. No program in sight. -/
namespace Cp

end Cp
