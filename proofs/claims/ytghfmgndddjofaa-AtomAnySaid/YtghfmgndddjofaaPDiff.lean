/- Plain facts on texts, their edits, and the shortest way from one text to another. No program in sight. -/
set_option linter.unusedVariables false
set_option linter.unusedSimpArgs false
namespace Cp

abbrev Tx := List UInt8
structure Edt where
  kind : Int
  at_ : Int
  many : Int
  text : Tx

def signB (c : UInt8) : Bool := decide (32 ≤ (c.toNat : Int)) && decide ((c.toNat : Int) ≤ 126)
def signsB (s : Tx) : Bool := s.all signB
def insideB (a m n : Int) : Bool := decide (0 ≤ a) && decide (0 ≤ m) && decide (a ≤ n) && decide (m ≤ n - a)

def plainE (s : Tx) (e : Edt) : Tx × Int :=
  if 300 < s.length then ([], 2)
  else if signsB s = false then ([], 3)
  else if e.kind = 1 then
    if e.many ≠ 0 then ([], 1)
    else if insideB e.at_ 0 s.length = false ∨ signsB e.text = false then ([], 3)
    else if 300 < s.length + e.text.length then ([], 2)
    else (s.take e.at_.toNat ++ e.text ++ s.drop e.at_.toNat, 0)
  else if e.kind = 2 then
    if e.text ≠ [] then ([], 1)
    else if insideB e.at_ e.many s.length = false then ([], 3)
    else (s.take e.at_.toNat ++ s.drop (e.at_.toNat + e.many.toNat), 0)
  else ([], 7)
def playE : Tx → List Edt → Tx × Int
  | s, [] => (s, 0)
  | s, e :: l => if (plainE s e).2 ≠ 0 then ([], (plainE s e).2) else playE (plainE s e).1 l

/-- how many signs of both are the same, in order, at most -/
def lcs : Tx → Tx → Nat
  | [], _ => 0
  | _ :: _, [] => 0
  | x :: xs, y :: ys => if x = y then 1 + lcs xs ys else max (lcs xs (y :: ys)) (lcs (x :: xs) ys)
termination_by a b => a.length + b.length

theorem lcs_nil_l (b : Tx) : lcs [] b = 0 := by simp [lcs]
theorem lcs_nil_r (a : Tx) : lcs a [] = 0 := by cases a <;> simp [lcs]
theorem lcs_cons (x y : UInt8) (xs ys : Tx) : lcs (x :: xs) (y :: ys) = if x = y then 1 + lcs xs ys else max (lcs xs (y :: ys)) (lcs (x :: xs) ys) := by
  rw [lcs]

/-- a way from one text to another, with so many signs taken and put -/
inductive Way : Tx → Tx → Nat → Prop
  | nil : Way [] [] 0
  | keep {a b n} (x : UInt8) : Way a b n → Way (x :: a) (x :: b) n
  | del {a b n} (x : UInt8) : Way a b n → Way (x :: a) b (n + 1)
  | ins {a b n} (x : UInt8) : Way a b n → Way a (x :: b) (n + 1)

theorem Way.symm {a b : Tx} {n : Nat} (h : Way a b n) : Way b a n := by
  induction h with
  | nil => exact .nil
  | keep x _ ih => exact .keep x ih
  | del x _ ih => exact .ins x ih
  | ins x _ ih => exact .del x ih

theorem Way.trans {a c : Tx} {m : Nat} (h : Way a c m) : ∀ {b : Tx} {n : Nat}, Way c b n → ∃ k, k ≤ m + n ∧ Way a b k := by
  induction h with
  | nil => intro b n h; exact ⟨n, by omega, h⟩
  | @keep a c m x h ih =>
    intro b n h2
    generalize hc : x :: c = c2 at h2
    induction h2 with
    | nil => cases hc
    | keep y h3 =>
      injection hc with h4 h5
      subst h4; subst h5
      obtain ⟨k, hk, hw⟩ := ih h3
      exact ⟨k, hk, .keep x hw⟩
    | del y h3 =>
      injection hc with h4 h5
      subst h4; subst h5
      obtain ⟨k, hk, hw⟩ := ih h3
      exact ⟨k + 1, by omega, .del x hw⟩
    | ins y h3 ih3 =>
      obtain ⟨k, hk, hw⟩ := ih3 hc
      exact ⟨k + 1, by omega, .ins y hw⟩
  | @del a c m x h ih =>
    intro b n h2
    obtain ⟨k, hk, hw⟩ := ih h2
    exact ⟨k + 1, by omega, .del x hw⟩
  | @ins a c m x h ih =>
    intro b n h2
    generalize hc : x :: c = c2 at h2
    induction h2 with
    | nil => cases hc
    | keep y h3 =>
      injection hc with h4 h5
      subst h4; subst h5
      obtain ⟨k, hk, hw⟩ := ih h3
      exact ⟨k + 1, by omega, .ins x hw⟩
    | del y h3 =>
      injection hc with h4 h5
      subst h4; subst h5
      obtain ⟨k, hk, hw⟩ := ih h3
      exact ⟨k, by omega, hw⟩
    | ins y h3 ih3 =>
      obtain ⟨k, hk, hw⟩ := ih3 hc
      exact ⟨k + 1, by omega, .ins y hw⟩

theorem lcs_le : ∀ (a b : Tx), lcs a b ≤ a.length ∧ lcs a b ≤ b.length
  | [], b => by simp [lcs]
  | x :: xs, [] => by simp [lcs]
  | x :: xs, y :: ys => by
    rw [lcs_cons]
    have h1 := lcs_le xs ys
    have h2 := lcs_le xs (y :: ys)
    have h3 := lcs_le (x :: xs) ys
    simp only [List.length_cons] at *
    split <;> omega
termination_by a b => a.length + b.length

/-- the least that is taken and put -/
def far (a b : Tx) : Nat := a.length + b.length - 2 * lcs a b

theorem lcs_step : ∀ (a b : Tx) (y : UInt8), lcs a b ≤ lcs a (y :: b) ∧ lcs a (y :: b) ≤ lcs a b + 1 ∧ (∀ x, lcs a b ≤ lcs (x :: a) b ∧ lcs (x :: a) b ≤ lcs a b + 1)
  | [], b, y => by
    refine ⟨by simp [lcs], by simp [lcs], fun x => ?_⟩
    induction b with
    | nil => simp [lcs]
    | cons z zs ih =>
      rw [lcs_cons]
      simp only [lcs_nil_l] at *
      split <;> omega
  | x :: xs, [], y => by
    have h1 := lcs_step xs [] y
    refine ⟨by simp [lcs], ?_, fun z => by simp [lcs]⟩
    rw [lcs_cons]
    simp only [lcs_nil_r] at *
    split <;> omega
  | x :: xs, z :: zs, y => by
    have h1 := lcs_step xs (z :: zs) y
    have h2 := lcs_step (x :: xs) zs z
    have h3 := lcs_step xs zs z
    refine ⟨?_, ?_, fun u => ?_⟩
    · rw [lcs_cons x y]
      have := h1.2.2 x
      split <;> omega
    · rw [lcs_cons x y]
      have := h1.2.2 x
      split <;> omega
    · rw [lcs_cons u z]
      have := h2.2.2 u
      have := h2.1
      split <;> omega
termination_by a b => a.length + b.length

theorem way_lcs (a b : Tx) : Way a b (far a b) := by
  match a, b with
  | [], [] => simpa [far, lcs] using Way.nil
  | [], y :: ys =>
    have := way_lcs [] ys
    have e : far [] (y :: ys) = far [] ys + 1 := by simp [far, lcs]
    rw [e]; exact .ins y this
  | x :: xs, [] =>
    have := way_lcs xs []
    have e : far (x :: xs) [] = far xs [] + 1 := by simp [far, lcs_nil_r]
    rw [e]; exact .del x this
  | x :: xs, y :: ys =>
    have l1 := lcs_le xs ys
    have l2 := lcs_le xs (y :: ys)
    have l3 := lcs_le (x :: xs) ys
    simp only [List.length_cons] at l1 l2 l3
    by_cases h : x = y
    · subst h
      have := way_lcs xs ys
      have e : far (x :: xs) (x :: ys) = far xs ys := by
        unfold far; rw [lcs_cons, if_pos rfl]; simp only [List.length_cons]; omega
      rw [e]; exact .keep x this
    · by_cases h2 : lcs (x :: xs) ys ≤ lcs xs (y :: ys)
      · have := way_lcs xs (y :: ys)
        have e : far (x :: xs) (y :: ys) = far xs (y :: ys) + 1 := by
          unfold far; rw [lcs_cons, if_neg h]; simp only [List.length_cons]; omega
        rw [e]; exact .del x this
      · have := way_lcs (x :: xs) ys
        have e : far (x :: xs) (y :: ys) = far (x :: xs) ys + 1 := by
          unfold far; rw [lcs_cons, if_neg h]; simp only [List.length_cons]; omega
        rw [e]; exact .ins y this
termination_by a.length + b.length

theorem way_far {a b : Tx} {n : Nat} (h : Way a b n) : far a b ≤ n := by
  induction h with
  | nil => simp [far]
  | @keep a b n x _ ih =>
    have := lcs_le a b
    unfold far at *; rw [lcs_cons, if_pos rfl]; simp only [List.length_cons]; omega
  | @del a b n x _ ih =>
    have := (lcs_step a b x).2.2 x
    unfold far at *; simp only [List.length_cons]; omega
  | @ins a b n x _ ih =>
    have := (lcs_step a b x).1
    unfold far at *; simp only [List.length_cons]; omega

theorem far_symm (a b : Tx) : far a b = far b a :=
  Nat.le_antisymm (way_far (way_lcs b a).symm) (way_far (way_lcs a b).symm)
theorem far_tri (a b c : Tx) : far a b ≤ far a c + far c b := by
  obtain ⟨k, hk, hw⟩ := (way_lcs a c).trans (way_lcs c b)
  exact Nat.le_trans (way_far hw) hk

/-- the document's own reckoning goes by beginnings -/
theorem Way.app {a b : Tx} {n : Nat} (h : Way a b n) : ∀ {c d : Tx} {m : Nat}, Way c d m → Way (a ++ c) (b ++ d) (n + m) := by
  induction h with
  | nil => intro c d m h; simpa using h
  | keep x _ ih => intro c d m h; exact .keep x (ih h)
  | @del _ _ n x _ ih => intro c d m h; have := Way.del x (ih h); rwa [Nat.add_right_comm] at this
  | @ins _ _ n x _ ih => intro c d m h; have := Way.ins x (ih h); rwa [Nat.add_right_comm] at this
theorem Way.rev {a b : Tx} {n : Nat} (h : Way a b n) : Way a.reverse b.reverse n := by
  induction h with
  | nil => exact .nil
  | keep x _ ih => simpa using ih.app (.keep x .nil)
  | del x _ ih => simpa using ih.app (.del x .nil)
  | ins x _ ih => simpa using ih.app (.ins x .nil)
theorem far_rev (a b : Tx) : far a.reverse b.reverse = far a b := by
  have h1 := way_far (way_lcs a b).rev
  have h2 := way_far (way_lcs a.reverse b.reverse).rev
  rw [List.reverse_reverse, List.reverse_reverse] at h2
  omega
theorem far_nil_l (b : Tx) : far [] b = b.length := by simp [far, lcs]
theorem far_nil_r (a : Tx) : far a [] = a.length := by simp [far, lcs_nil_r]
theorem far_cons (x y : UInt8) (a b : Tx) : far (x :: a) (y :: b) = if x = y then far a b else min (far (x :: a) b) (far a (y :: b)) + 1 := by
  have l1 := lcs_le a b
  have l2 := lcs_le a (y :: b)
  have l3 := lcs_le (x :: a) b
  simp only [List.length_cons] at l1 l2 l3
  unfold far
  rw [lcs_cons]
  simp only [List.length_cons]
  split <;> omega
theorem far_snoc (x y : UInt8) (a b : Tx) : far (a ++ [x]) (b ++ [y]) = if x = y then far a b else min (far (a ++ [x]) b) (far a (b ++ [y])) + 1 := by
  have h := far_cons x y a.reverse b.reverse
  have e1 : far (x :: a.reverse) (y :: b.reverse) = far (a ++ [x]) (b ++ [y]) := by rw [← far_rev (a ++ [x])]; simp
  have e2 : far (x :: a.reverse) b.reverse = far (a ++ [x]) b := by rw [← far_rev (a ++ [x])]; simp
  have e3 : far a.reverse (y :: b.reverse) = far a (b ++ [y]) := by rw [← far_rev a]; simp
  rw [e1, e2, e3, far_rev] at h
  exact h

/-! ### the edits that the walk makes -/
/-- one sign goes, behind so many that stay -/
def takeStep (out : List Edt) (k : Int) : List Edt :=
  match out.getLast? with
  | some e => if e.at_ = k then out.dropLast ++ [{ e with many := e.many + 1 }] else out ++ [⟨2, k, 1, []⟩]
  | none => [⟨2, k, 1, []⟩]
/-- one sign comes, at a place -/
def putStep (come : List Edt) (k : Int) (c : UInt8) : List Edt :=
  match come.getLast? with
  | some e => if e.at_ + e.text.length = k ∧ e.text.length ≠ 60 then come.dropLast ++ [{ e with text := e.text ++ [c] }] else come ++ [⟨1, k, 0, [c]⟩]
  | none => [⟨1, k, 0, [c]⟩]
def walkD : Tx → Tx → Int → Int → List Edt → List Edt → List Edt × List Edt
  | [], [], _, _, out, come => (out, come)
  | _ :: xs, [], st, k, out, come => walkD xs [] st k (takeStep out st) come
  | [], y :: ys, st, k, out, come => walkD [] ys st (k + 1) out (putStep come k y)
  | x :: xs, y :: ys, st, k, out, come =>
    if x = y then walkD xs ys (st + 1) (k + 1) out come
    else if lcs (x :: xs) ys ≤ lcs xs (y :: ys) then walkD xs (y :: ys) st k (takeStep out st) come
    else walkD (x :: xs) ys st (k + 1) out (putStep come k y)
termination_by a b => a.length + b.length
def rawD (a b : Tx) : List Edt := (walkD a b 0 0 [] []).1 ++ (walkD a b 0 0 [] []).2
def diffErr (a b : Tx) : Int := if 300 < a.length ∨ 300 < b.length then 2 else if signsB a = false ∨ signsB b = false then 3 else 0
def diffD (a b : Tx) : List Edt × Int := if diffErr a b ≠ 0 then ([], diffErr a b) else (rawD a b, 0)

/-- signs that are put and taken -/
def manyE (l : List Edt) : Int := (l.map fun e => (if 0 < e.many ∧ e.many ≤ 300 then e.many else 0) + (e.text.length : Int)).sum

theorem playE_app : ∀ (l : List Edt) (s : Tx) (m : List Edt), (playE s l).2 = 0 → playE s (l ++ m) = playE (playE s l).1 m
  | [], s, m, _ => rfl
  | e :: l, s, m, h => by
    rw [playE] at h
    rw [List.cons_append, playE, playE]
    by_cases h1 : (plainE s e).2 ≠ 0
    · rw [if_pos h1] at h; exact absurd h h1
    · rw [if_neg h1] at h
      rw [if_neg h1, if_neg h1]
      exact playE_app l _ m h

theorem signsB_app (a b : Tx) : signsB (a ++ b) = (signsB a && signsB b) := by simp [signsB]

/-- an edit that takes is good at a text, and makes another one of it -/
theorem plain_take {t u v w : Tx} {a m : Int} (h : t = u ++ v ++ w) (hs : signsB t = true) (hl : t.length ≤ 300) (ha : a = u.length) (hm : m = v.length) :
    plainE t ⟨2, a, m, []⟩ = (u ++ w, 0) := by
  subst ha; subst hm
  have hin : insideB (u.length : Int) (v.length : Int) (t.length : Int) = true := by
    unfold insideB; subst h
    simp only [List.length_append, Bool.and_eq_true, decide_eq_true_eq]; omega
  unfold plainE
  rw [if_neg (by omega), if_neg (by simp [hs])]
  simp only [hin]
  subst h
  simp [List.drop_append]
theorem plain_put {t u w x : Tx} {a : Int} (h : t = u ++ w) (hs : signsB t = true) (hx : signsB x = true) (hl : t.length + x.length ≤ 300) (ha : a = u.length) :
    plainE t ⟨1, a, 0, x⟩ = (u ++ x ++ w, 0) := by
  subst ha
  have hin : insideB (u.length : Int) 0 (t.length : Int) = true := by
    unfold insideB; subst h
    simp only [List.length_append, Bool.and_eq_true, decide_eq_true_eq]; omega
  unfold plainE
  rw [if_neg (by omega), if_neg (by simp [hs])]
  simp only [hin, hx]
  rw [if_pos trivial, if_neg (by simp), if_neg (by simp), if_neg (by omega)]
  subst h
  simp

/-- edits play from one text to another; the last one, if there is one, stands so -/
structure Plays (s : Tx) (l : List Edt) (t : Tx) : Prop where
  ok : playE s l = (t, 0)

theorem getLast_split {α : Type} {l : List α} {e : α} (h : l.getLast? = some e) : l = l.dropLast ++ [e] := by
  have hne : l ≠ [] := by rintro rfl; simp at h
  rw [List.getLast?_eq_some_getLast hne] at h
  injection h with h
  rw [← h]; exact (List.dropLast_concat_getLast hne).symm

theorem playE_snoc_inv {s t : Tx} {l : List Edt} {e : Edt} (h : playE s (l ++ [e]) = (t, 0)) : ∃ u, playE s l = (u, 0) ∧ plainE u e = (t, 0) := by
  have hall : ∀ (l : List Edt) (s : Tx), (playE s (l ++ [e])).2 = 0 → (playE s l).2 = 0 := by
    intro l
    induction l with
    | nil => intro s _; rfl
    | cons d l ih =>
      intro s h
      simp only [List.cons_append] at h
      unfold playE at h ⊢
      split at h
      · rename_i h1; exact absurd h h1
      · rename_i h1; rw [if_neg h1]; exact ih _ h
  have h0 := hall l s (by rw [h])
  rw [playE_app l s [e] h0] at h
  refine ⟨(playE s l).1, by rw [← h0], ?_⟩
  unfold playE at h
  split at h
  · rename_i h1
    have := congrArg Prod.snd h
    exact absurd this h1
  · rename_i h1
    simp only [playE, ne_eq, Decidable.not_not] at h h1
    have h3 := congrArg Prod.fst h
    simp only at h3
    rw [← h3, ← h1]

theorem plain_take_inv {u t : Tx} {e : Edt} (hk : e.kind = 2) (h : plainE u e = (t, 0)) :
    u.length ≤ 300 ∧ signsB u = true ∧ e.text = [] ∧ 0 ≤ e.at_ ∧ 0 ≤ e.many ∧ e.at_ + e.many ≤ u.length ∧ t = u.take e.at_.toNat ++ u.drop (e.at_.toNat + e.many.toNat) := by
  have h2 := congrArg Prod.snd h
  have h1 := congrArg Prod.fst h
  unfold plainE at h1 h2
  by_cases c1 : 300 < u.length
  · rw [if_pos c1] at h2; simp at h2
  rw [if_neg c1] at h1 h2
  by_cases c2 : signsB u = false
  · rw [if_pos c2] at h2; simp at h2
  rw [if_neg c2] at h1 h2
  rw [if_neg (by omega)] at h1 h2
  rw [if_pos hk] at h1 h2
  by_cases c3 : e.text ≠ []
  · rw [if_pos c3] at h2; simp at h2
  rw [if_neg c3] at h1 h2
  by_cases c4 : insideB e.at_ e.many u.length = false
  · rw [if_pos c4] at h2; simp at h2
  rw [if_neg c4] at h1 h2
  unfold insideB at c4
  simp only [Bool.not_eq_false, Bool.and_eq_true, decide_eq_true_eq] at c4
  exact ⟨by omega, by simpa using c2, by simpa using c3, c4.1.1.1, c4.1.1.2, by omega, h1.symm⟩

theorem plain_put_inv {u t : Tx} {e : Edt} (hk : e.kind = 1) (h : plainE u e = (t, 0)) :
    u.length + e.text.length ≤ 300 ∧ signsB u = true ∧ signsB e.text = true ∧ e.many = 0 ∧ 0 ≤ e.at_ ∧ e.at_ ≤ u.length ∧ t = u.take e.at_.toNat ++ e.text ++ u.drop e.at_.toNat := by
  have h2 := congrArg Prod.snd h
  have h1 := congrArg Prod.fst h
  unfold plainE at h1 h2
  by_cases c1 : 300 < u.length
  · rw [if_pos c1] at h2; simp at h2
  rw [if_neg c1] at h1 h2
  by_cases c2 : signsB u = false
  · rw [if_pos c2] at h2; simp at h2
  rw [if_neg c2] at h1 h2
  rw [if_pos hk] at h1 h2
  by_cases c3 : e.many ≠ 0
  · rw [if_pos c3] at h2; simp at h2
  rw [if_neg c3] at h1 h2
  by_cases c4 : insideB e.at_ 0 u.length = false ∨ signsB e.text = false
  · rw [if_pos c4] at h2; simp at h2
  rw [if_neg c4] at h1 h2
  by_cases c5 : 300 < u.length + e.text.length
  · rw [if_pos c5] at h2; simp at h2
  rw [if_neg c5] at h1 h2
  have c6 : insideB e.at_ 0 u.length = true := by
    cases hq : insideB e.at_ 0 u.length with
    | true => rfl
    | false => exact absurd (.inl hq) c4
  have c7 : signsB e.text = true := by
    cases hq : signsB e.text with
    | true => rfl
    | false => exact absurd (.inr hq) c4
  unfold insideB at c6
  simp only [Bool.and_eq_true, decide_eq_true_eq] at c6
  exact ⟨by omega, by simpa using c2, c7, by simpa using c3, c6.1.1.1, by omega, h1.symm⟩

/-- what a list of takes is -/
def TakeEs (l : List Edt) : Prop := ∀ e ∈ l, e.kind = 2 ∧ 1 ≤ e.many ∧ e.many ≤ 300 ∧ e.text = []
def PutEs (l : List Edt) : Prop := ∀ e ∈ l, e.kind = 1 ∧ e.many = 0 ∧ e.text ≠ [] ∧ e.text.length ≤ 60

theorem manyE_app (l m : List Edt) : manyE (l ++ m) = manyE l + manyE m := by simp [manyE]
theorem manyE_one (e : Edt) : manyE [e] = (if 0 < e.many ∧ e.many ≤ 300 then e.many else 0) + e.text.length := by simp [manyE]

theorem take_plays {s u w : Tx} {x : UInt8} {out : List Edt} (hp : playE s out = (u ++ x :: w, 0)) (ht : TakeEs out) (hs : signsB (u ++ x :: w) = true) (hl : (u ++ x :: w).length ≤ 300) (_hsl : s.length ≤ 300) :
    playE s (takeStep out u.length) = (u ++ w, 0) ∧ TakeEs (takeStep out u.length) ∧ manyE (takeStep out u.length) = manyE out + 1 := by
  have new : playE s (out ++ [⟨2, u.length, 1, []⟩]) = (u ++ w, 0) ∧ TakeEs (out ++ [⟨2, u.length, 1, []⟩]) ∧ manyE (out ++ [⟨2, u.length, 1, []⟩]) = manyE out + 1 := by
    refine ⟨?_, ?_, ?_⟩
    · rw [playE_app out s _ (by rw [hp]), hp]
      have := plain_take (t := u ++ x :: w) (u := u) (v := [x]) (w := w) (a := u.length) (m := 1) (by simp) hs hl rfl (by simp)
      simp [playE, this]
    · intro e he
      rcases List.mem_append.1 he with h | h
      · exact ht e h
      · have : e = ⟨2, u.length, 1, []⟩ := by simpa using h
        subst this; simp
    · rw [manyE_app, manyE_one]; simp
  unfold takeStep
  cases hg : out.getLast? with
  | none =>
    have : out = [] := by simpa using hg
    subst this
    simpa using new
  | some e =>
    have hsp := getLast_split hg
    simp only
    by_cases hk : e.at_ = (u.length : Int)
    · rw [if_pos hk]
      have hte := ht e (by rw [hsp]; simp)
      rw [hsp] at hp
      obtain ⟨t0, hp0, hpl⟩ := playE_snoc_inv hp
      obtain ⟨b1, b2, b3, b4, b5, b6, b7⟩ := plain_take_inv hte.1 hpl
      have ea : e.at_.toNat = u.length := by omega
      rw [ea] at b7
      -- t0 = u ++ v ++ x :: w, v of e.many signs
      have e1 : t0.take u.length = u := by
        have h0 := congrArg (List.take u.length) b7
        rw [List.take_append_of_le_length (l₁ := t0.take u.length) (by simp; omega), List.take_take, Nat.min_self] at h0
        rw [← h0]; simp
      have e2 : t0.drop (u.length + e.many.toNat) = x :: w := by
        rw [e1] at b7
        exact (List.append_cancel_left b7).symm
      have e3 : t0 = u ++ (t0.drop u.length).take e.many.toNat ++ x :: w := by
        conv => lhs; rw [← List.take_append_drop u.length t0, ← List.take_append_drop e.many.toNat (t0.drop u.length)]
        rw [e1, List.drop_drop, e2]; simp
      have e6 : t0 = u ++ ((t0.drop u.length).take e.many.toNat ++ [x]) ++ w := by
        conv => lhs; rw [e3]
        simp
      have e4 : ((t0.drop u.length).take e.many.toNat).length = e.many.toNat := by
        rw [List.length_take, List.length_drop]; omega
      have hlen : t0.length = u.length + e.many.toNat + (w.length + 1) := by
        conv => lhs; rw [e3]
        simp only [List.length_append, List.length_cons, e4]
      refine ⟨?_, ?_, ?_⟩
      · rw [playE_app _ s _ (by rw [hp0]), hp0]
        have hp := plain_take (t := t0) (u := u) (v := (t0.drop u.length).take e.many.toNat ++ [x]) (w := w) (a := u.length) (m := e.many + 1) e6 b2 b1 rfl (by simp only [List.length_append, e4, List.length_cons, List.length_nil]; omega)
        have he : ({ e with many := e.many + 1 } : Edt) = ⟨2, u.length, e.many + 1, []⟩ := by
          rcases e with ⟨k, a, m, t⟩
          simp at hte hk ⊢
          exact ⟨hte.1, hk, hte.2.2.2⟩
        rw [he]
        simp [playE, hp]
      · intro d hd
        rcases List.mem_append.1 hd with h | h
        · exact ht d ((List.dropLast_sublist _).mem h)
        · have : d = { e with many := e.many + 1 } := by simpa using h
          subst this
          refine ⟨hte.1, by simp; omega, ?_, hte.2.2.2⟩
          simp only
          omega
      · rw [manyE_app, manyE_one]
        conv => rhs; rw [hsp, manyE_app, manyE_one]
        have hm1 := hte.2.1
        have hm2 := hte.2.2.1
        simp only
        rw [if_pos (by omega), if_pos (by omega)]
        omega
    · rw [if_neg hk]; exact new

theorem put_plays {s u w : Tx} {y : UInt8} {come : List Edt} (hp : playE s come = (u ++ w, 0)) (ht : PutEs come) (hs : signsB (u ++ w) = true) (hy : signB y = true) (hl : (u ++ w).length + 1 ≤ 300) :
    playE s (putStep come u.length y) = (u ++ y :: w, 0) ∧ PutEs (putStep come u.length y) ∧ manyE (putStep come u.length y) = manyE come + 1 := by
  have new : playE s (come ++ [⟨1, u.length, 0, [y]⟩]) = (u ++ y :: w, 0) ∧ PutEs (come ++ [⟨1, u.length, 0, [y]⟩]) ∧ manyE (come ++ [⟨1, u.length, 0, [y]⟩]) = manyE come + 1 := by
    refine ⟨?_, ?_, ?_⟩
    · rw [playE_app come s _ (by rw [hp]), hp]
      have := plain_put (t := u ++ w) (u := u) (w := w) (x := [y]) (a := u.length) rfl hs (by simp [signsB, hy]) (by simpa using hl) rfl
      simp [playE, this]
    · intro e he
      rcases List.mem_append.1 he with h | h
      · exact ht e h
      · have : e = ⟨1, u.length, 0, [y]⟩ := by simpa using h
        subst this; simp
    · rw [manyE_app, manyE_one]; simp
  unfold putStep
  cases hg : come.getLast? with
  | none =>
    have : come = [] := by simpa using hg
    subst this
    simpa using new
  | some e =>
    have hsp := getLast_split hg
    simp only
    by_cases hk : e.at_ + e.text.length = (u.length : Int) ∧ e.text.length ≠ 60
    · rw [if_pos hk]
      have hte := ht e (by rw [hsp]; simp)
      rw [hsp] at hp
      obtain ⟨t0, hp0, hpl⟩ := playE_snoc_inv hp
      obtain ⟨b1, b2, b3, b4, b5, b6, b7⟩ := plain_put_inv hte.1 hpl
      have hsplit : u = t0.take e.at_.toNat ++ e.text ∧ w = t0.drop e.at_.toNat := by
        have hlen : (t0.take e.at_.toNat ++ e.text).length = u.length := by
          simp only [List.length_append, List.length_take]; omega
        exact List.append_inj b7 hlen.symm
      have e5 : t0.length + e.text.length = (u ++ w).length := by rw [b7]; simp only [List.length_append, List.length_take, List.length_drop]; omega
      refine ⟨?_, ?_, ?_⟩
      · rw [playE_app _ s _ (by rw [hp0]), hp0]
        have hp := plain_put (t := t0) (u := t0.take e.at_.toNat) (w := t0.drop e.at_.toNat) (x := e.text ++ [y]) (a := e.at_) (by simp) b2 (by rw [signsB_app, b3]; simp [signsB, hy])
          (by simp only [List.length_append, List.length_cons, List.length_nil] at e5 hl ⊢; omega) (by simp only [List.length_take]; omega)
        have he : ({ e with text := e.text ++ [y] } : Edt) = ⟨1, e.at_, 0, e.text ++ [y]⟩ := by
          rcases e with ⟨k, a, m, t⟩
          simp at hte ⊢
          exact ⟨hte.1, hte.2.1⟩
        rw [he, hsplit.2]
        conv => rhs; rw [hsplit.1]
        simp [playE, hp]
      · intro d hd
        rcases List.mem_append.1 hd with h | h
        · exact ht d ((List.dropLast_sublist _).mem h)
        · have : d = { e with text := e.text ++ [y] } := by simpa using h
          subst this
          refine ⟨hte.1, hte.2.1, by simp, ?_⟩
          simp only [List.length_append, List.length_cons, List.length_nil]
          have := hte.2.2.2
          omega
      · rw [manyE_app, manyE_one]
        conv => rhs; rw [hsp, manyE_app, manyE_one]
        simp only [List.length_append, List.length_cons, List.length_nil]
        omega
    · rw [if_neg hk]; exact new

/-- the signs that stay -/
def stays : Tx → Tx → Tx
  | [], _ => []
  | _ :: _, [] => []
  | x :: xs, y :: ys => if x = y then x :: stays xs ys else if lcs (x :: xs) ys ≤ lcs xs (y :: ys) then stays xs (y :: ys) else stays (x :: xs) ys
termination_by a b => a.length + b.length
theorem stays_nil_r (a : Tx) : stays a [] = [] := by cases a <;> simp [stays]
theorem stays_facts : ∀ (a b : Tx), (stays a b).length = lcs a b ∧ (signsB a = true → signsB (stays a b) = true)
  | [], b => by simp [stays, lcs, signsB]
  | x :: xs, [] => by simp [stays, lcs, signsB]
  | x :: xs, y :: ys => by
    have h1 := stays_facts xs ys
    have h2 := stays_facts xs (y :: ys)
    have h3 := stays_facts (x :: xs) ys
    rw [lcs_cons, stays]
    by_cases c : x = y
    · rw [if_pos c, if_pos c]
      refine ⟨by simp [h1.1]; omega, fun h => ?_⟩
      simp only [signsB, List.all_cons, Bool.and_eq_true] at h ⊢
      exact ⟨h.1, h1.2 h.2⟩
    · rw [if_neg c, if_neg c]
      by_cases c2 : lcs (x :: xs) ys ≤ lcs xs (y :: ys)
      · rw [if_pos c2]
        refine ⟨by rw [h2.1]; omega, fun h => h2.2 ?_⟩
        simp only [signsB, List.all_cons, Bool.and_eq_true] at h ⊢
        exact h.2
      · rw [if_neg c2]
        exact ⟨by rw [h3.1]; omega, h3.2⟩
termination_by a b => a.length + b.length

theorem walk_plays {s k0 : Tx} : ∀ (a b pre don : Tx) (st k : Int) (out come : List Edt), playE s out = (pre ++ a, 0) → TakeEs out → playE k0 come = (don ++ stays a b, 0) → PutEs come →
    st = pre.length → k = don.length → signsB (pre ++ a) = true → signsB (don ++ b) = true → (pre ++ a).length ≤ 300 → (don ++ b).length ≤ 300 → s.length ≤ 300 →
    signsB don = true →
    playE s (walkD a b st k out come).1 = (pre ++ stays a b, 0) ∧ TakeEs (walkD a b st k out come).1 ∧
    playE k0 (walkD a b st k out come).2 = (don ++ b, 0) ∧ PutEs (walkD a b st k out come).2 ∧
    manyE (walkD a b st k out come).1 + manyE (walkD a b st k out come).2 = manyE out + manyE come + far a b
  | [], [], pre, don, st, k, out, come, h1, h2, h3, h4, _, _, _, _, _, _, _, _ => by
    simp only [stays, List.append_nil, walkD] at *
    exact ⟨h1, h2, h3, h4, by simp [far]⟩
  | x :: xs, [], pre, don, st, k, out, come, h1, h2, h3, h4, h5, h6, h7, h8, h9, h10, h11, h12 => by
    obtain ⟨g1, g2, g3⟩ := take_plays h1 h2 h7 h9 h11
    have hs7 : signsB (pre ++ xs) = true := by
      rw [signsB_app] at h7 ⊢
      simp only [signsB, List.all_cons, Bool.and_eq_true] at h7 ⊢
      exact ⟨h7.1, h7.2.2⟩
    have e0 : stays (x :: xs) [] = stays xs [] := by rw [stays_nil_r, stays_nil_r]
    rw [e0] at h3 ⊢
    subst h5
    obtain ⟨i1, i2, i3, i4, i5⟩ := walk_plays xs [] pre don pre.length k (takeStep out pre.length) come g1 g2 h3 h4 rfl h6 hs7 h8 (by simp at h9 ⊢; omega) h10 h11 h12
    rw [walkD]
    refine ⟨i1, i2, i3, i4, ?_⟩
    rw [i5, g3, far_nil_r, far_nil_r]
    simp only [List.length_cons]; omega
  | [], y :: ys, pre, don, st, k, out, come, h1, h2, h3, h4, h5, h6, h7, h8, h9, h10, h11, h12 => by
    have e0 : ∀ z, stays [] z = [] := fun z => by simp [stays]
    rw [e0] at h3 ⊢
    have hy : signB y = true := by
      rw [signsB_app] at h8
      simp only [signsB, List.all_cons, Bool.and_eq_true] at h8
      exact h8.2.1
    obtain ⟨g1, g2, g3⟩ := put_plays (w := []) h3 h4 (by simpa using h12) hy (by simp at h10 ⊢; omega)
    subst h6
    obtain ⟨i1, i2, i3, i4, i5⟩ := walk_plays [] ys pre (don ++ [y]) st (don.length + 1) out (putStep come don.length y) h1 h2 (by rw [e0]; simpa using g1) g2 h5 (by simp) h7 (by simpa using h8) h9 (by simpa using h10) h11
      (by rw [signsB_app, h12]; simp [signsB, hy])
    rw [walkD]
    rw [e0] at i1
    refine ⟨i1, i2, by simpa using i3, i4, ?_⟩
    rw [i5, g3, far_nil_l, far_nil_l]
    simp only [List.length_cons]; omega
  | x :: xs, y :: ys, pre, don, st, k, out, come, h1, h2, h3, h4, h5, h6, h7, h8, h9, h10, h11, h12 => by
    have hy : signB y = true := by
      rw [signsB_app] at h8
      simp only [signsB, List.all_cons, Bool.and_eq_true] at h8
      exact h8.2.1
    have l1 := lcs_le xs ys
    have l2 := lcs_le xs (y :: ys)
    have l3 := lcs_le (x :: xs) ys
    simp only [List.length_cons] at l1 l2 l3
    rw [walkD]
    by_cases c : x = y
    · subst c
      rw [if_pos rfl]
      have e0 : stays (x :: xs) (x :: ys) = x :: stays xs ys := by rw [stays, if_pos rfl]
      rw [e0] at h3 ⊢
      obtain ⟨i1, i2, i3, i4, i5⟩ := walk_plays xs ys (pre ++ [x]) (don ++ [x]) (st + 1) (k + 1) out come (by simpa using h1) h2 (by simpa using h3) h4 (by simp; omega) (by simp; omega)
        (by simpa using h7) (by simpa using h8) (by simpa using h9) (by simpa using h10) h11 (by rw [signsB_app, h12]; simp [signsB, hy])
      refine ⟨by simpa using i1, i2, by simpa using i3, i4, ?_⟩
      rw [i5, far_cons, if_pos rfl]
    · rw [if_neg c]
      by_cases c2 : lcs (x :: xs) ys ≤ lcs xs (y :: ys)
      · rw [if_pos c2]
        have e0 : stays (x :: xs) (y :: ys) = stays xs (y :: ys) := by rw [stays, if_neg c, if_pos c2]
        rw [e0] at h3 ⊢
        obtain ⟨g1, g2, g3⟩ := take_plays h1 h2 h7 h9 h11
        have hs7 : signsB (pre ++ xs) = true := by
          rw [signsB_app] at h7 ⊢
          simp only [signsB, List.all_cons, Bool.and_eq_true] at h7 ⊢
          exact ⟨h7.1, h7.2.2⟩
        subst h5
        obtain ⟨i1, i2, i3, i4, i5⟩ := walk_plays xs (y :: ys) pre don pre.length k (takeStep out pre.length) come g1 g2 h3 h4 rfl h6 hs7 h8 (by simp at h9 ⊢; omega) h10 h11 h12
        refine ⟨i1, i2, i3, i4, ?_⟩
        rw [i5, g3]
        have : far (x :: xs) (y :: ys) = far xs (y :: ys) + 1 := by
          unfold far; rw [lcs_cons, if_neg c]; simp only [List.length_cons]; omega
        omega
      · rw [if_neg c2]
        have e0 : stays (x :: xs) (y :: ys) = stays (x :: xs) ys := by rw [stays, if_neg c, if_neg c2]
        rw [e0] at h3 ⊢
        have hst := stays_facts (x :: xs) ys
        have hsx : signsB (x :: xs) = true := by rw [signsB_app] at h7; simp only [Bool.and_eq_true] at h7; exact h7.2
        obtain ⟨g1, g2, g3⟩ := put_plays h3 h4 (by rw [signsB_app, h12, hst.2 hsx]; rfl) hy (by simp only [List.length_append, List.length_cons] at h10 ⊢; omega)
        subst h6
        obtain ⟨i1, i2, i3, i4, i5⟩ := walk_plays (x :: xs) ys pre (don ++ [y]) st (don.length + 1) out (putStep come don.length y) h1 h2 (by simpa using g1) g2 h5 (by simp) h7 (by simpa using h8) h9 (by simpa using h10) h11
          (by rw [signsB_app, h12]; simp [signsB, hy])
        refine ⟨i1, i2, by simpa using i3, i4, ?_⟩
        rw [i5, g3]
        have : far (x :: xs) (y :: ys) = far (x :: xs) ys + 1 := by
          unfold far; rw [lcs_cons, if_neg c]; simp only [List.length_cons]; omega
        omega
termination_by a b => a.length + b.length

/-- WHAT IS PLAYED LEADS FROM ONE TEXT TO THE OTHER, WITH AS FEW SIGNS AS MAY BE -/
theorem raw_leads {a b : Tx} (ha : a.length ≤ 300) (hb : b.length ≤ 300) (sa : signsB a = true) (sb : signsB b = true) :
    playE a (rawD a b) = (b, 0) ∧ manyE (rawD a b) = far a b ∧ (∀ e ∈ rawD a b, ¬ (e.many = 0 ∧ e.text = []) ∧ e.text.length ≤ 60) := by
  have h := walk_plays (s := a) (k0 := stays a b) a b [] [] 0 0 [] [] rfl (by simp [TakeEs]) rfl (by simp [PutEs]) (by simp) (by simp) (by simpa using sa) (by simpa using sb) (by simpa using ha) (by simpa using hb) ha (by simp [signsB])
  obtain ⟨h1, h2, h3, h4, h5⟩ := h
  refine ⟨?_, ?_, fun e he => ?_⟩
  · unfold rawD
    rw [playE_app _ _ _ (by rw [h1]), h1]
    simpa using h3
  · unfold rawD
    rw [manyE_app, h5]; simp [manyE]
  · rcases List.mem_append.1 he with h | h
    · obtain ⟨_, k1, _, k2⟩ := h2 e h
      exact ⟨by omega, by rw [k2]; simp⟩
    · obtain ⟨_, _, k2, k3⟩ := h4 e h
      exact ⟨fun hh => k2 hh.2, k3⟩

end Cp
