/- Plain facts on atoms: sorted atoms are what is to be seen of them at each mark; put in whatever order they are the same; what is taken is gone. -/
import Derived.Test.YtfgfdohppgoajaaGreatQ5ab4d67304
import Derived.Test.YtfgfdohppgoajaaGreatQa1b06f5163
set_option linter.unusedVariables false
set_option linter.unusedSimpArgs false
namespace Go.Proofs.YtfgfdohppgoajaaGreat
open Go Go.RowKit Cp

theorem mnS_comm (x y : UInt8) : mnS x y = mnS y x := by
  unfold mnS
  by_cases h : y < x
  · rw [if_pos h, if_neg (by have := UInt8.lt_iff_toNat_lt.1 h; rw [UInt8.lt_iff_toNat_lt]; omega)]
  · by_cases h2 : x < y
    · rw [if_neg h, if_pos h2]
    · rw [if_neg h, if_neg h2]
      rw [UInt8.lt_iff_toNat_lt] at h h2
      exact UInt8.toNat_inj.1 (by omega)
theorem mnS_toNat (x y : UInt8) : (mnS x y).toNat = min x.toNat y.toNat := by
  unfold mnS
  by_cases h : y < x
  · rw [if_pos h]; rw [UInt8.lt_iff_toNat_lt] at h; omega
  · rw [if_neg h]; rw [UInt8.lt_iff_toNat_lt] at h; omega
theorem mnS_assoc (x y z : UInt8) : mnS (mnS x y) z = mnS x (mnS y z) := by
  apply UInt8.toNat_inj.1
  simp only [mnS_toNat]; omega
theorem mnS_self (x : UInt8) : mnS x x = x := by apply UInt8.toNat_inj.1; rw [mnS_toNat]; omega
/-- two signs, or none, as one -/
def comb : Option UInt8 → Option UInt8 → Option UInt8
  | none, y => y
  | some x, none => some x
  | some x, some y => some (mnS x y)
theorem comb_comm (x y : Option UInt8) : comb x y = comb y x := by
  cases x <;> cases y <;> simp [comb, mnS_comm]
theorem comb_assoc (x y z : Option UInt8) : comb (comb x y) z = comb x (comb y z) := by
  cases x <;> cases y <;> cases z <;> simp [comb, mnS_assoc]
theorem comb_none (x : Option UInt8) : comb x none = x := by cases x <;> rfl
def one (a : At) (x : Mk) : Option UInt8 := if ordM a.1 x = 0 then some a.2 else none
/-- the sign that is to be seen at a mark -/
def look : List At → Mk → Option UInt8
  | [], _ => none
  | a :: r, x => comb (one a x) (look r x)
theorem look_cons (a : At) (r : List At) (x : Mk) : look (a :: r) x = comb (one a x) (look r x) := rfl
theorem one_same {a b : At} {x : Mk} (h : ordM a.1 b.1 = 0) : comb (one a x) (one b x) = one (a.1, mnS a.2 b.2) x := by
  have e : a.1 = b.1 := ordM_zero.1 h
  unfold one
  rw [← e]
  by_cases h2 : ordM a.1 x = 0
  · rw [if_pos h2, if_pos h2, if_pos h2]; rfl
  · rw [if_neg h2, if_neg h2, if_neg h2]; rfl
theorem look_put : ∀ (l : List At) (a : At) (x : Mk), look (putA l a) x = comb (look l x) (one a x)
  | [], a, x => by simp only [putA, look, comb_none]; rfl
  | b :: r, a, x => by
    rw [putA_cons]
    by_cases h1 : ordM b.1 a.1 = 0
    · rw [if_pos h1, look_cons, look_cons, ← one_same h1, comb_assoc, comb_assoc, comb_comm (one a x)]
    · rw [if_neg h1]
      by_cases h2 : ordM b.1 a.1 = 1
      · rw [if_pos h2, look_cons, comb_comm]
      · rw [if_neg h2, look_cons, look_put r a x, look_cons, comb_assoc]
theorem look_merge : ∀ (m l : List At) (x : Mk), look (mergeA l m) x = comb (look l x) (look m x)
  | [], l, x => by simp only [mergeA, List.foldl_nil, look, comb_none]
  | a :: m, l, x => by
    have e : mergeA l (a :: m) = mergeA (putA l a) m := rfl
    rw [e, look_merge m, look_put, look_cons, comb_assoc]
theorem look_none {r : List At} {x : Mk} (h : ∀ b ∈ r, ordM b.1 x ≠ 0) : look r x = none := by
  induction r with
  | nil => rfl
  | cons b r ih =>
    rw [look_cons, ih (fun c hc => h c (by simp [hc]))]
    unfold one
    rw [if_neg (h b (by simp))]; rfl
theorem ordM_self (a : Mk) : ordM a a = 0 := ordM_zero.2 rfl
theorem look_head {a : At} {r : List At} (h : SortedA (a :: r)) : look (a :: r) a.1 = some a.2 := by
  rw [look_cons, look_none (fun b hb => by have := ordM_swap' (sortedA_head h b hb); omega), comb_none]
  unfold one
  rw [if_pos (ordM_self _)]
theorem look_ahead {a : At} {r : List At} {x : Mk} (h : SortedA (a :: r)) (h1 : ordM x a.1 = -1) : look (a :: r) x = none := by
  refine look_none (fun b hb => ?_)
  rcases List.mem_cons.1 hb with rfl | hb
  · have := ordM_swap' h1; omega
  · have := ordM_swap' (ordM_trans h1 (sortedA_head h b hb)); omega
theorem look_eq : ∀ {l m : List At}, SortedA l → SortedA m → (∀ x, look l x = look m x) → l = m
  | [], [], _, _, _ => rfl
  | [], b :: s, _, hm, h => by have := h b.1; rw [look_head hm] at this; simp [look] at this
  | a :: r, [], hl, _, h => by have := h a.1; rw [look_head hl] at this; simp [look] at this
  | a :: r, b :: s, hl, hm, h => by
    rcases ordM_range a.1 b.1 with h1 | h1 | h1
    · have := h a.1; rw [look_head hl, look_ahead hm h1] at this; simp at this
    · have e1 : a.1 = b.1 := ordM_zero.1 h1
      have e2 : a.2 = b.2 := by
        have h2 := h a.1
        rw [look_head hl, e1, look_head hm] at h2
        exact Option.some.inj h2
      have e : a = b := Prod.ext e1 e2
      subst e
      have : r = s := by
        refine look_eq (sortedA_tail hl) (sortedA_tail hm) (fun x => ?_)
        by_cases h2 : ordM a.1 x = 0
        · have e3 : a.1 = x := ordM_zero.1 h2
          subst e3
          rw [look_none (fun b hb => by have := ordM_swap' (sortedA_head hl b hb); omega), look_none (fun b hb => by have := ordM_swap' (sortedA_head hm b hb); omega)]
        · have h3 := h x
          rw [look_cons, look_cons] at h3
          unfold one at h3
          rw [if_neg h2] at h3
          exact h3
      rw [this]
    · have := h b.1; rw [look_head hm, look_ahead hl (ordM_swap h1)] at this; simp at this
theorem merge_comm {l m : List At} (hl : RightA l) (hm : RightA m) : mergeA l m = mergeA m l :=
  look_eq (mergeA_right hl hm.2).1 (mergeA_right hm hl.2).1 (fun x => by rw [look_merge, look_merge, comb_comm])
theorem merge_assoc {l m n : List At} (hl : RightA l) (hm : RightA m) (hn : RightA n) : mergeA l (mergeA m n) = mergeA (mergeA l m) n :=
  look_eq (mergeA_right hl (mergeA_right hm hn.2).2).1 (mergeA_right (mergeA_right hl hm.2) hn.2).1 (fun x => by rw [look_merge, look_merge, look_merge, look_merge, comb_assoc])
theorem takeA_len (l : List At) (ms : List Mk) : (takeA l ms).length ≤ l.length := List.length_filter_le _ _
theorem hasM_take {l : List At} {ms : List Mk} {a : At} (h : a ∈ l) : hasM (takeA l ms) a.1 = !hasG ms a.1 := by
  cases hg : hasG ms a.1 with
  | true =>
    unfold hasM
    rw [Bool.not_true, List.any_eq_false]
    intro b hb
    have hb2 := (List.mem_filter.1 hb).2
    have : ordM b.1 a.1 ≠ 0 := fun e => by rw [ordM_zero.1 e, hg] at hb2; simp at hb2
    simpa using this
  | false =>
    unfold hasM
    rw [Bool.not_false, List.any_eq_true]
    exact ⟨a, List.mem_filter.2 ⟨h, by simp [hg]⟩, by simpa using ordM_self a.1⟩
end Go.Proofs.YtfgfdohppgoajaaGreat
/- Plain facts on deeds that are done: one mark more among marks in order; a deed; deeds; what the document does, step by step. -/
namespace Go.Proofs.YtfgfdohppgoajaaGreat
open Go Go.RowKit Cp

/-- marks in order -/
def SortedG : List Mk → Prop
  | [] => True
  | [_] => True
  | a :: b :: r => ordM a b = -1 ∧ SortedG (b :: r)
theorem sortedG_tail {x : Mk} {r : List Mk} (h : SortedG (x :: r)) : SortedG r := by
  cases r with
  | nil => trivial
  | cons b r => exact h.2
theorem sortedG_head : ∀ {r : List Mk} {x : Mk}, SortedG (x :: r) → ∀ b ∈ r, ordM x b = -1
  | [], _, _, b, hb => by simp at hb
  | c :: r, x, h, b, hb => by
    rcases List.mem_cons.1 hb with rfl | hb
    · exact h.1
    · exact ordM_trans h.1 (sortedG_head h.2 b hb)
theorem sortedG_mk {x : Mk} {r : List Mk} (h : SortedG r) (k : ∀ b ∈ r, ordM x b = -1) : SortedG (x :: r) := by
  cases r with
  | nil => trivial
  | cons b r => exact ⟨k b (by simp), h⟩
/-- one mark more, if it is not there -/
def putG : List Mk → Mk → List Mk
  | [], m => [m]
  | x :: r, m => if ordM x m = 0 then x :: r else if ordM x m = 1 then m :: x :: r else x :: putG r m
theorem putG_cons (x : Mk) (r : List Mk) (m : Mk) : putG (x :: r) m = if ordM x m = 0 then x :: r else if ordM x m = 1 then m :: x :: r else x :: putG r m := rfl
/-- how many stand ahead of a mark -/
def placeG (l : List Mk) (m : Mk) : Nat := l.countP fun x => decide (ordM x m < 0)
theorem placeG_le (l : List Mk) (m : Mk) : placeG l m ≤ l.length := List.countP_le_length
theorem placeG_cons (x : Mk) (r : List Mk) (m : Mk) : placeG (x :: r) m = placeG r m + if ordM x m < 0 then 1 else 0 := by
  unfold placeG
  rw [List.countP_cons]
  simp
theorem hasG_cons (x : Mk) (r : List Mk) (m : Mk) : hasG (x :: r) m = (decide (ordM x m = 0) || hasG r m) := by simp [hasG]
theorem placeG_none {r : List Mk} {m : Mk} (h : ∀ b ∈ r, ordM b m = 1) : placeG r m = 0 ∧ hasG r m = false := by
  constructor
  · unfold placeG
    rw [List.countP_eq_zero]
    intro b hb
    have := h b hb
    simp; omega
  · unfold hasG
    rw [List.any_eq_false]
    intro b hb
    have := h b hb
    simp; omega
theorem putG_has : ∀ {l : List Mk} {m : Mk}, SortedG l → hasG l m = true → putG l m = l
  | [], m, _, h => by simp [hasG] at h
  | x :: r, m, hs, h => by
    rw [putG_cons]
    by_cases h0 : ordM x m = 0
    · rw [if_pos h0]
    · rw [if_neg h0]
      rw [hasG_cons, decide_eq_false h0, Bool.false_or] at h
      by_cases h1 : ordM x m = 1
      · have := (placeG_none (r := r) (m := m) (fun b hb => ordM_up (sortedG_head hs b hb) (by omega))).2
        rw [this] at h; cases h
      · rw [if_neg h1, putG_has (sortedG_tail hs) h]
theorem putG_new : ∀ {l : List Mk} {m : Mk}, SortedG l → hasG l m = false → putG l m = l.take (placeG l m) ++ m :: l.drop (placeG l m)
  | [], m, _, _ => by simp [putG]
  | x :: r, m, hs, h => by
    rw [hasG_cons, Bool.or_eq_false_iff] at h
    have h0 : ordM x m ≠ 0 := by simpa using h.1
    rw [placeG_cons, putG_cons, if_neg h0]
    by_cases h1 : ordM x m = 1
    · rw [if_pos h1, (placeG_none (r := r) (m := m) (fun b hb => ordM_up (sortedG_head hs b hb) (by omega))).1, if_neg (by omega)]; rfl
    · have h2 : ordM x m = -1 := by rcases ordM_range x m with h3 | h3 | h3 <;> omega
      rw [if_neg h1, if_pos (by omega), putG_new (sortedG_tail hs) h.2]; rfl
theorem putG_mem : ∀ {l : List Mk} {m b : Mk}, b ∈ putG l m → b = m ∨ b ∈ l
  | [], m, b, h => by simp [putG] at h; exact .inl h
  | x :: r, m, b, h => by
    rw [putG_cons] at h
    split at h
    · exact .inr h
    · split at h
      · rcases List.mem_cons.1 h with rfl | h
        · exact .inl rfl
        · exact .inr h
      · rcases List.mem_cons.1 h with rfl | h
        · exact .inr (by simp)
        · rcases putG_mem h with h | h
          · exact .inl h
          · exact .inr (by simp [h])
theorem putG_sorted : ∀ {l : List Mk} {m : Mk}, SortedG l → SortedG (putG l m)
  | [], m, _ => trivial
  | x :: r, m, hs => by
    have hr := sortedG_head hs
    rw [putG_cons]
    by_cases h0 : ordM x m = 0
    · rw [if_pos h0]; exact hs
    · rw [if_neg h0]
      by_cases h1 : ordM x m = 1
      · rw [if_pos h1]
        refine sortedG_mk hs (fun b hb => ?_)
        rcases List.mem_cons.1 hb with rfl | hb
        · exact ordM_swap h1
        · exact ordM_trans (ordM_swap h1) (hr b hb)
      · rw [if_neg h1]
        refine sortedG_mk (putG_sorted (sortedG_tail hs)) (fun b hb => ?_)
        rcases putG_mem hb with rfl | hb
        · rcases ordM_range x b with h3 | h3 | h3 <;> omega
        · exact hr b hb
theorem putG_hasG : ∀ (l : List Mk) (m x : Mk), hasG (putG l m) x = (hasG l x || decide (ordM m x = 0))
  | [], m, x => by simp [putG, hasG]
  | y :: r, m, x => by
    rw [putG_cons]
    split
    · rename_i h0
      rw [ordM_zero] at h0
      subst h0
      rw [hasG_cons]
      cases decide (ordM y x = 0) <;> simp
    · split
      · rw [hasG_cons, Bool.or_comm]
      · rw [hasG_cons, hasG_cons, putG_hasG r m x, Bool.or_assoc]
theorem putG_len : ∀ (l : List Mk) (m : Mk), (putG l m).length ≤ l.length + 1
  | [], m => by simp [putG]
  | x :: r, m => by
    rw [putG_cons]
    split
    · simp
    · split
      · simp
      · have := putG_len r m
        simp; omega
theorem putG_len_le : ∀ (l : List Mk) (m : Mk), l.length ≤ (putG l m).length
  | [], m => by simp [putG]
  | x :: r, m => by
    rw [putG_cons]
    split
    · simp
    · split
      · simp
      · have := putG_len_le r m
        simp; omega
def putGs (l : List Mk) (ms : List Mk) : List Mk := ms.foldl putG l
theorem putGs_take {l ms : List Mk} {k : Nat} {m : Mk} (h : ms[k]? = some m) : putGs l (ms.take (k + 1)) = putG (putGs l (ms.take k)) m := by
  obtain ⟨h1, h2⟩ := List.getElem?_eq_some_iff.1 h
  unfold putGs
  rw [List.take_succ_eq_append_getElem h1, h2, List.foldl_append]; rfl
theorem putGs_sorted : ∀ {ms l : List Mk}, SortedG l → SortedG (putGs l ms)
  | [], l, h => h
  | m :: ms, l, h => putGs_sorted (ms := ms) (putG_sorted h)
theorem putGs_len : ∀ (ms l : List Mk), (putGs l ms).length ≤ l.length + ms.length
  | [], l => by simp [putGs]
  | m :: ms, l => by
    have h1 := putGs_len ms (putG l m)
    have h2 := putG_len l m
    have e : putGs l (m :: ms) = putGs (putG l m) ms := rfl
    rw [e, List.length_cons]; omega
/-- the document's loop: behind k marks it holds out, and knows whether m has been put; none of those behind is m -/
def DocG (l : List Mk) (m : Mk) (k : Nat) (out : List Mk) (put : Bool) : Prop :=
  out ++ (if put = true then l.drop k else putG (l.drop k) m) = putG l m ∧ out.length ≤ k + 1 ∧ (put = false → out.length ≤ k)
theorem docG_start (l : List Mk) (m : Mk) : DocG l m 0 [] false := ⟨by simp, by simp, by simp⟩
theorem docG_new {l : List Mk} {m x : Mk} {k : Nat} {out : List Mk} (h : DocG l m k out false) (hx : l[k]? = some x) (h1 : ordM x m = 1) : DocG l m (k + 1) (out ++ [m] ++ [x]) true := by
  obtain ⟨e, hl, hl2⟩ := h
  rw [drop_at hx] at e
  refine ⟨?_, ?_, by simp⟩
  · simp only [if_true]
    rw [if_neg (by simp), putG_cons, if_neg (by omega), if_pos h1] at e
    rw [← e]; simp
  · have := hl2 rfl
    simp; omega
theorem docG_less {l : List Mk} {m x : Mk} {k : Nat} {out : List Mk} (h : DocG l m k out false) (hx : l[k]? = some x) (h0 : ¬ ordM x m = 0) (h1 : ¬ ordM x m = 1) : DocG l m (k + 1) (out ++ [x]) false := by
  obtain ⟨e, hl, hl2⟩ := h
  rw [drop_at hx] at e
  refine ⟨?_, ?_, ?_⟩
  · rw [if_neg (by simp)] at e ⊢
    rw [putG_cons, if_neg h0, if_neg h1] at e
    rw [← e]; simp
  · have := hl2 rfl
    simp; omega
  · intro _; have := hl2 rfl
    simp; omega
theorem docG_put {l : List Mk} {m x : Mk} {k : Nat} {out : List Mk} (h : DocG l m k out true) (hx : l[k]? = some x) : DocG l m (k + 1) (out ++ [x]) true := by
  obtain ⟨e, hl, _⟩ := h
  rw [drop_at hx] at e
  refine ⟨?_, by simp; omega, by simp⟩
  simp only [if_true] at e ⊢
  rw [← e]; simp
theorem docG_end {l : List Mk} {m : Mk} {out : List Mk} {put : Bool} (h : DocG l m l.length out put) : (if put = true then out else out ++ [m]) = putG l m := by
  obtain ⟨e, _⟩ := h
  rw [List.drop_length] at e
  cases put
  · simpa [putG] using e
  · simpa using e
theorem hasG_no {l : List Mk} {m x : Mk} {k : Nat} (h : hasG l m = false) (hx : l[k]? = some x) : ¬ ordM x m = 0 := by
  have := List.any_eq_false.1 h x (List.mem_of_getElem? hx)
  simpa using this

/-- one atom more, unless it is gone -/
def putN (g : List Mk) (l : List At) (a : At) : List At := if hasG g a.1 = true then l else putA l a
def putNs (g : List Mk) (l m : List At) : List At := m.foldl (putN g) l
theorem putNs_take {g : List Mk} {l m : List At} {k : Nat} {a : At} (h : m[k]? = some a) : putNs g l (m.take (k + 1)) = putN g (putNs g l (m.take k)) a := by
  obtain ⟨h1, h2⟩ := List.getElem?_eq_some_iff.1 h
  unfold putNs
  rw [List.take_succ_eq_append_getElem h1, h2, List.foldl_append]; rfl
theorem putNs_merge (g : List Mk) : ∀ (m l : List At), putNs g l m = mergeA l (m.filter fun a => !hasG g a.1)
  | [], l => rfl
  | a :: m, l => by
    have e : putNs g l (a :: m) = putNs g (putN g l a) m := rfl
    rw [e, putNs_merge g m, List.filter_cons]
    unfold putN
    cases hasG g a.1 <;> simp [mergeA]
theorem putNs_right {g : List Mk} {m l : List At} (h : RightA l) (hm : ∀ a ∈ m, checkM a.1 = 0 ∧ signB a.2 = true) : RightA (putNs g l m) := by
  rw [putNs_merge]
  exact mergeA_right h (fun a ha => hm a (List.mem_filter.1 ha).1)
theorem putNs_len (g : List Mk) (l m : List At) : (putNs g l m).length ≤ l.length + m.length := by
  rw [putNs_merge]
  exact Nat.le_trans (mergeA_len _ _) (Nat.add_le_add_left (List.length_filter_le _ _) _)
theorem takeA_right {l : List At} {ms : List Mk} (h : RightA l) : RightA (takeA l ms) := by
  obtain ⟨hs, ha⟩ := h
  refine ⟨?_, fun a hm => ha a (List.mem_filter.1 hm).1⟩
  clear ha
  induction l with
  | nil => trivial
  | cons x r ih =>
    unfold takeA
    rw [List.filter_cons]
    split
    · exact sortedA_mk (ih (sortedA_tail hs)) (fun b hb => sortedA_head hs b (List.mem_filter.1 hb).1)
    · exact ih (sortedA_tail hs)
/-- the marks that a deed names -/
def marksN (m : Mk) (n : Nat) : List Mk := (List.range n).map fun (i : Nat) => afterM m (i : Int)
def marksD (d : De) : List Mk := if d.kind = 1 then marksN d.run.1 d.run.2.length else marksN d.mark d.many.toNat
theorem marksN_len (m : Mk) (n : Nat) : (marksN m n).length = n := by simp [marksN]
theorem marksN_at {m : Mk} {n k : Nat} (h : k < n) : (marksN m n)[k]? = some (afterM m (k : Int)) := by simp [marksN, h]
theorem takeA_one (l : List At) (ms : List Mk) (m : Mk) : takeA l (ms ++ [m]) = takeA (takeA l ms) [m] := by
  unfold takeA
  rw [List.filter_filter]
  apply List.filter_congr
  intro a _
  simp [hasG, Bool.and_comm]
theorem takeA_nil (l : List At) : takeA l [] = l := by simp [takeA, hasG]
/-- a deed that is right, done -/
def doDeed (s : St) (d : De) : St := if d.kind = 1 then (putNs s.2 s.1 (atomsR d.run), s.2) else (takeA s.1 (marksD d), putGs s.2 (marksD d))
/-- too much -/
def tooMuch (s : St) : Bool := decide (300 < s.1.length) || decide (600 < s.2.length)
def doDs : St → List De → Option St
  | s, [] => some s
  | s, d :: r => if tooMuch (doDeed s d) = true then none else doDs (doDeed s d) r
end Go.Proofs.YtfgfdohppgoajaaGreat
/- The place of a mark among marks in order; what is gone of a state that is worked on. -/
namespace Go.Proofs.YtfgfdohppgoajaaGreat
open Go Go.RowKit Go.BigFrame Cp

theorem sortedG_lt : ∀ {l : List Mk}, SortedG l → ∀ (j : Nat) (a b : Mk) (i : Nat), i < j → l[i]? = some a → l[j]? = some b → ordM a b = -1
  | [], _, j, a, b, i, _, h, _ => by simp at h
  | [x], _, j, a, b, i, hij, _, h => by
    cases j with
    | zero => omega
    | succ j => simp at h
  | x :: y :: r, hs, j, a, b, i, hij, h1, h2 => by
    obtain ⟨hxy, hr⟩ := hs
    cases j with
    | zero => omega
    | succ j =>
      cases i with
      | succ i => exact sortedG_lt hr j a b i (by omega) (by simpa using h1) (by simpa using h2)
      | zero =>
        have e : x = a := by simpa using h1
        subst e
        have h2' : (y :: r)[j]? = some b := by simpa using h2
        cases j with
        | zero => have e : y = b := by simpa using h2'
                  subst e; exact hxy
        | succ j => exact ordM_trans hxy (sortedG_lt hr (j + 1) y b 0 (by omega) rfl h2')
theorem placeG_is {l : List Mk} {m : Mk} {n : Nat} (hn : n ≤ l.length) (h1 : ∀ t a, l[t]? = some a → t < n → ordM a m < 0) (h2 : ∀ t a, l[t]? = some a → n ≤ t → ¬ ordM a m < 0) : placeG l m = n := by
  unfold placeG
  rw [← List.take_append_drop n l, List.countP_append]
  have e1 : (l.take n).countP (fun a => decide (ordM a m < 0)) = (l.take n).length := by
    rw [List.countP_eq_length]
    intro a ha
    obtain ⟨t, ht, e⟩ := List.mem_iff_getElem.1 ha
    have ht' : t < n := by rw [List.length_take] at ht; omega
    exact decide_eq_true (h1 t a (by rw [← List.getElem?_take_of_lt ht', List.getElem?_eq_getElem ht, e]) ht')
  have e2 : (l.drop n).countP (fun a => decide (ordM a m < 0)) = 0 := by
    rw [List.countP_eq_zero]
    intro a ha
    obtain ⟨t, ht, e⟩ := List.mem_iff_getElem.1 ha
    have := h2 (n + t) a (by rw [← List.getElem?_drop, List.getElem?_eq_getElem ht, e]) (by omega)
    simpa using this
  rw [e1, e2, List.length_take]; omega
/-- how far a search between two places has come -/
def HalvesG (l : List Mk) (m : Mk) (i j : Nat) : Prop := i ≤ j ∧ j ≤ l.length ∧ (∀ t a, l[t]? = some a → t < i → ordM a m < 0) ∧ ∀ t a, l[t]? = some a → j ≤ t → ¬ ordM a m < 0
theorem halvesG_start (l : List Mk) (m : Mk) : HalvesG l m 0 l.length :=
  ⟨Nat.zero_le _, Nat.le_refl _, fun t a _ h => by omega, fun t a h ht => by rw [List.getElem?_eq_none ht] at h; cases h⟩
theorem halvesG_low {l : List Mk} {m : Mk} {i j h : Nat} {a : Mk} (hs : SortedG l) (hh : HalvesG l m i j) (h1 : h < j) (e : l[h]? = some a) (ho : ordM a m < 0) : HalvesG l m (h + 1) j := by
  refine ⟨by omega, hh.2.1, fun t b hb ht => ?_, hh.2.2.2⟩
  by_cases h2 : t = h
  · subst h2
    have : a = b := by rw [e] at hb; simpa using hb
    subst this; exact ho
  · exact ordM_lt.2 (ordM_trans (sortedG_lt hs h b a t (by omega) hb e) (ordM_lt.1 ho))
theorem halvesG_high {l : List Mk} {m : Mk} {i j h : Nat} {a : Mk} (hs : SortedG l) (hh : HalvesG l m i j) (h0 : i ≤ h) (h1 : h < j) (e : l[h]? = some a) (ho : ¬ ordM a m < 0) : HalvesG l m i h := by
  refine ⟨h0, by have := hh.2.1; omega, hh.2.2.1, fun t b hb ht hlt => ?_⟩
  by_cases h2 : t = h
  · subst h2
    have : a = b := by rw [e] at hb; simpa using hb
    subst this; exact ho hlt
  · exact ho (ordM_lt.2 (ordM_trans (sortedG_lt hs t a b h (by omega) e hb) (ordM_lt.1 hlt)))
theorem halvesG_end {l : List Mk} {m : Mk} {i : Nat} (hh : HalvesG l m i i) : placeG l m = i := placeG_is hh.2.1 hh.2.2.1 hh.2.2.2
theorem hasG_far {l : List Mk} {m : Mk} {i : Nat} (hh : HalvesG l m i i) (h : l.length ≤ i) : hasG l m = false := by
  unfold hasG
  rw [List.any_eq_false]
  intro a ha
  obtain ⟨t, ht, e⟩ := List.mem_iff_getElem.1 ha
  have := hh.2.2.1 t a (by rw [List.getElem?_eq_getElem ht, e]) (by omega)
  simp; omega
theorem hasG_near {l : List Mk} {m : Mk} {i : Nat} {a : Mk} (hs : SortedG l) (hh : HalvesG l m i i) (e : l[i]? = some a) : hasG l m = (ordM a m == 0) := by
  cases h : (ordM a m == 0) with
  | true =>
    unfold hasG
    rw [List.any_eq_true]
    exact ⟨a, List.mem_of_getElem? e, by simpa using h⟩
  | false =>
    unfold hasG
    rw [List.any_eq_false]
    intro b hb
    obtain ⟨t, ht, e2⟩ := List.mem_iff_getElem.1 hb
    have e3 : l[t]? = some b := by rw [List.getElem?_eq_getElem ht, e2]
    have h0 : ¬ ordM a m = 0 := by simpa using h
    have hr := ordM_range a m
    have h1 := hh.2.2.2 i a e (Nat.le_refl _)
    simp only [decide_eq_true_eq]
    intro hz
    have hbm := ordM_zero.1 hz
    rcases Nat.lt_trichotomy t i with hlt | rfl | hgt
    · have := hh.2.2.1 t b e3 hlt; omega
    · rw [e] at e3
      have : a = b := by simpa using e3
      subst this; exact h0 hz
    · have := sortedG_lt hs t a b i hgt e e3
      rw [hbm] at this; omega

set_option maxRecDepth 100000 in
set_option maxHeartbeats 4000000 in
theorem searchG_any {F G : Nat → Prop} {w : World} {v : Value} {ds : List Value} {l : List Mk} {m : Mk} (hl : RSl RMk 2 F w v l) (hm : RMk G w ds m) (hs : SortedG l) (hn : l.length ≤ 1000000) :
    Calls Tryz.prog 147 #[v, .agg ds.toArray, .func (.func 59) #[] #[]] w (IsFound (placeG l m) (hasG l m) w) := by
  obtain ⟨a0, n0, c0, rfl⟩ := hl.slice
  obtain ⟨rfl, _, _⟩ := hl.len
  have HMX := Lib.hid (fun (W : World) (hx : Ext w W) => gMk.ext hm hx)
  obtain ⟨u, rfl, hm, _⟩ := hm
  obtain ⟨m, d⟩ := m
  simp only at hm HMX ⊢
  obtain ⟨a2, n2, c2, rfl⟩ := hm.slice
  have HL := Lib.hid hl
  have HS := Lib.hid hs
  clear hl hm hs
  go_enter Tryz.func147, Tryz.ntmps147
  go_wp2
  go_loopw [9, 10] (fun iv jv wr => ∃ i j : Nat, i ≤ j ∧ j ≤ l.length ∧ iv = .int .i64 i ∧ jv = .int .i64 j ∧ Hid (HalvesG l (m, d) i j) ∧ Ext (w.alloc (.cells #[.slice a2 n2 c2, .int .i64 d] 47)) wr) (fun iv jv _ => (intOf jv).toNat - (intOf iv).toNat)
  case atStart => exact ⟨0, l.length, Nat.zero_le _, Nat.le_refl _, rfl, rfl, Lib.hid (halvesG_start _ _), ext_refl _⟩
  case round =>
    obtain ⟨i, j, hij, hjl, rfl, rfl, HH, hx⟩ := hrel
    have hw : Ext w wr := ext_trans (ext_alloc (ext_refl _) _) hx
    have z1 : wr.cell? ⟨w.heap.size, 0, none⟩ = some (.slice a2 n2 c2) := (hx.cells _ _ (by simp <;> omega)).trans (by go_simp)
    have z2 : wr.cell? ⟨w.heap.size, 1, none⟩ = some (.int .i64 d) := (hx.cells _ _ (by simp <;> omega)).trans (by go_simp)
    have hsz := hx.size
    (try simp at hsz)
    have hbz : w.heap.size < wr.heap.size := by omega
    have HX := Lib.hid hx
    have HW := Lib.hid hw
    clear hx hw
    by_cases hlt : i < j
    · obtain ⟨h, hh⟩ : ∃ h : Nat, h = (i + j) / 2 := ⟨_, rfl⟩
      have hlo : i ≤ h := by omega
      have hhi : h < j := by omega
      have hhl : h < l.length := by omega
      have hsh : (((i : Int) + (j : Int)) >>> 1) = (h : Int) := by rw [Int.shiftRight_eq_div_pow]; omega
      have hsn : (i + j) >>> 1 = h := by rw [Nat.shiftRight_eq_div_pow]; omega
      have hq2 : ((i : Int) + (j : Int)) / 2 = (h : Int) := by omega
      have HHH := Lib.hid hh
      clear hh
      obtain ⟨b, o, p, c, ap, cp, rfl, hb, ek, ick, hpp, y0, y1⟩ := mark_at (HL.out.ext gMk HW.out) hhl
      have HCM := Lib.hid (fun (W : World) (hx : Ext wr W) => order_any (rmk_of' (hpp.ext gStp hx) ick) (HMX.out W (ext_trans HW.out hx)))
      have HEK := Lib.hid ek
      clear hpp ick ek
      by_cases g : ordM (p, c) (m, d) < 0
      · have HF := Lib.hid (halvesG_low HS.out HH.out hhi HEK.out g)
        have t1 : decide (ordM (p, c) (m, d) < 0) = true := decide_eq_true g
        generalize ordM (p, c) (m, d) = od at *
        clear g
        go_wp2_with fail
        refine wp_name (fun W2 eW2 => ?_)
        have e0 : W2.cell? ⟨w.heap.size, 0, none⟩ = some (.slice a2 n2 c2) := by rw [eW2]; go_simp
        have e1 : W2.cell? ⟨w.heap.size, 1, none⟩ = some (.int .i64 d) := by rw [eW2]; go_simp
        have e2 : W2.cell? ⟨b, o + h * 2, none⟩ = some (.slice ap p.length cp) := by rw [eW2]; go_simp
        have e3 : W2.cell? ⟨b, o + h * 2 + 1, none⟩ = some (.int .i64 c) := by rw [eW2]; go_simp
        have zW2_0 : b < W2.heap.size := by rw [eW2]; first | assumption | omega | (simp <;> omega)
        have zW2_1 : w.heap.size < W2.heap.size := by rw [eW2]; first | assumption | omega | (simp <;> omega)
        have hw2 : Ext wr W2 := by rw [eW2]; exact extA
        clear eW2
        refine wp_region_later fol (by kernel_rfl) (fun hlater => ?_)
        repeat (go_big_quiet_step ((first
            | (go_at_call 59; (with_reducible exact later_of (HCM.out _ (ext_trans hw2 (Later.ext _))))))))
        refine wpQuiet_nil ?_
        rintro w3 ⟨⟨w3x, hx3⟩, rfl⟩
        clear hlater
        go_wp2_with fail
        go_roundw
        case rel => exact ⟨h + 1, j, by omega, by omega, by go_num, rfl, HF, ext_trans HX.out (ext_trans hw2 hx3)⟩
        case measure => simp [intOf]; omega
      · have HF := Lib.hid (halvesG_high HS.out HH.out hlo hhi HEK.out g)
        have t1 : decide (ordM (p, c) (m, d) < 0) = false := decide_eq_false g
        generalize ordM (p, c) (m, d) = od at *
        clear g
        go_wp2_with fail
        refine wp_name (fun W2 eW2 => ?_)
        have e0 : W2.cell? ⟨w.heap.size, 0, none⟩ = some (.slice a2 n2 c2) := by rw [eW2]; go_simp
        have e1 : W2.cell? ⟨w.heap.size, 1, none⟩ = some (.int .i64 d) := by rw [eW2]; go_simp
        have e2 : W2.cell? ⟨b, o + h * 2, none⟩ = some (.slice ap p.length cp) := by rw [eW2]; go_simp
        have e3 : W2.cell? ⟨b, o + h * 2 + 1, none⟩ = some (.int .i64 c) := by rw [eW2]; go_simp
        have zW2_0 : b < W2.heap.size := by rw [eW2]; first | assumption | omega | (simp <;> omega)
        have zW2_1 : w.heap.size < W2.heap.size := by rw [eW2]; first | assumption | omega | (simp <;> omega)
        have hw2 : Ext wr W2 := by rw [eW2]; exact extA
        clear eW2
        refine wp_region_later fol (by kernel_rfl) (fun hlater => ?_)
        repeat (go_big_quiet_step ((first
            | (go_at_call 59; (with_reducible exact later_of (HCM.out _ (ext_trans hw2 (Later.ext _))))))))
        refine wpQuiet_nil ?_
        rintro w3 ⟨⟨w3x, hx3⟩, rfl⟩
        clear hlater
        go_wp2_with fail
        go_roundw
        case rel => exact ⟨i, h, by omega, by omega, rfl, rfl, HF, ext_trans HX.out (ext_trans hw2 hx3)⟩
        case measure => simp [intOf]; omega
    · have hji : j = i := by omega
      subst hji
      by_cases hin : j < l.length
      · obtain ⟨b, o, p, c, ap, cp, rfl, hb, ek, ick, hpp, y0, y1⟩ := mark_at (HL.out.ext gMk HW.out) hin
        have HCM := Lib.hid (fun (W : World) (hx : Ext wr W) => order_any (rmk_of' (hpp.ext gStp hx) ick) (HMX.out W (ext_trans HW.out hx)))
        have HF := Lib.hid (hasG_near HS.out HH.out ek)
        have t2 : decide ((j : Int) < (l.length : Int)) = true := decide_eq_true (by omega)
        have t3 : decide (j < l.length) = true := decide_eq_true (by omega)
        clear hpp ick ek
        generalize ordM (p, c) (m, d) = od at *
        go_wp2_with fail
        refine wp_name (fun W2 eW2 => ?_)
        have e0 : W2.cell? ⟨w.heap.size, 0, none⟩ = some (.slice a2 n2 c2) := by rw [eW2]; go_simp
        have e1 : W2.cell? ⟨w.heap.size, 1, none⟩ = some (.int .i64 d) := by rw [eW2]; go_simp
        have e2 : W2.cell? ⟨b, o + j * 2, none⟩ = some (.slice ap p.length cp) := by rw [eW2]; go_simp
        have e3 : W2.cell? ⟨b, o + j * 2 + 1, none⟩ = some (.int .i64 c) := by rw [eW2]; go_simp
        have zW2_0 : b < W2.heap.size := by rw [eW2]; first | assumption | omega | (simp <;> omega)
        have zW2_1 : w.heap.size < W2.heap.size := by rw [eW2]; first | assumption | omega | (simp <;> omega)
        have hw2 : Ext wr W2 := by rw [eW2]; exact extA
        clear eW2
        refine wp_region_later fol (by kernel_rfl) (fun hlater => ?_)
        repeat (go_big_quiet_step ((first
            | (go_at_call 59; (with_reducible exact later_of (HCM.out _ (ext_trans hw2 (Later.ext _))))))))
        refine wpQuiet_nil ?_
        rintro w3 ⟨⟨w3x, hx3⟩, rfl⟩
        clear hlater
        go_wp2_with fail
        refine bodyPost_ret (v := .tuple #[.int .i64 (j : Nat), .bool (od == 0)]) (by simp [results, Tryz.results147, go_sem]) rfl ⟨by rw [halvesG_end HH.out, HF.out], ext_trans HW.out (ext_trans hw2 hx3)⟩
      · have HF := Lib.hid (hasG_far HH.out (by omega))
        have t2 : decide ((j : Int) < (l.length : Int)) = false := decide_eq_false (by omega)
        have t3 : decide (j < l.length) = false := decide_eq_false (by omega)
        go_wp2_with fail
        refine wp_name (fun W2 eW2 => ?_)
        have e0 : W2.cell? ⟨w.heap.size, 0, none⟩ = some (.slice a2 n2 c2) := by rw [eW2]; go_simp
        have e1 : W2.cell? ⟨w.heap.size, 1, none⟩ = some (.int .i64 d) := by rw [eW2]; go_simp
        have zW2_0 : w.heap.size < W2.heap.size := by rw [eW2]; first | assumption | omega | (simp <;> omega)
        have hw2 : Ext wr W2 := by rw [eW2]; exact extA
        clear eW2
        refine wp_region_later fol (by kernel_rfl) (fun hlater => ?_)
        repeat (go_big_quiet_step ((fail)))
        refine wpQuiet_nil ?_
        rintro w3 ⟨⟨w3x, hx3⟩, rfl⟩
        clear hlater
        go_wp2_with fail
        refine bodyPost_ret (v := .tuple #[.int .i64 (j : Nat), .bool false]) (by simp [results, Tryz.results147, go_sem]) rfl ⟨by rw [halvesG_end HH.out, HF.out], ext_trans HW.out (ext_trans hw2 hx3)⟩


end Go.Proofs.YtfgfdohppgoajaaGreat
/- The same atoms. -/
namespace Go.Proofs.YtfgfdohppgoajaaGreat
open Go Go.RowKit Go.BigFrame Cp

theorem same_same {F G : Nat → Prop} {w : World} {cs ds : List Value} {a : Mk} (ha : RMk F w cs a) (hb : RMk G w ds a) : Calls Tryz.prog 52 #[.agg cs.toArray, .agg ds.toArray] w fun e w' => e = .returned (.bool true) ∧ Ext w w' := by
  have h1 := same_any ha hb
  rw [ordM_self] at h1
  exact h1
set_option maxRecDepth 100000 in
set_option maxHeartbeats 4000000 in
theorem sameAtoms_any {F G : Nat → Prop} {w : World} {v u : Value} {l : List At} (h : RSl RAt 3 F w v l) (k : RSl RAt 3 G w u l) :
    Calls Tryz.prog 10 #[v, u] w fun e w' => e = .returned (.bool true) ∧ Ext w w' := by
  have HL := Lib.hid (fun (W : World) (hx : Ext w W) => h.ext gAt hx)
  have HM := Lib.hid (fun (W : World) (hx : Ext w W) => k.ext gAt hx)
  obtain ⟨a, n, c, rfl⟩ := h.slice
  obtain ⟨a2, n2, c2, rfl⟩ := k.slice
  obtain ⟨rfl, hn1, hn2⟩ := h.len
  obtain ⟨rfl, _, _⟩ := k.len
  unfold maxLen at hn2
  have q1 : l.length ≤ 9223372036854775807 := by omega
  clear h k hn1 hn2
  go_enter Tryz.func10, Tryz.ntmps10
  go_wp2
  go_loopw [5] (fun i wr => ∃ q : Nat, q ≤ l.length ∧ i = .int .i64 q ∧ Ext w wr) (fun i _ => l.length - (intOf i).toNat)
  case atStart => exact ⟨0, Nat.zero_le _, rfl, ext_refl _⟩
  case round =>
    obtain ⟨q, hq, rfl, hx⟩ := hrel
    have HX := Lib.hid hx
    clear hx
    by_cases hlt : q < l.length
    · obtain ⟨b, o, p, d, s, ap, cp, rfl, hb, e1, i1, hp1, y0, y1, y2⟩ := atm_at (HL.out wr HX.out) hlt
      obtain ⟨b2, o2, p2, d2, s2, ap2, cp2, rfl, hb2, e2, i2, hp2, z0, z1, z2⟩ := atm_at (HM.out wr HX.out) hlt
      obtain ⟨⟨rfl, rfl⟩, rfl⟩ : (p = p2 ∧ d = d2) ∧ s = s2 := by
        rw [e1] at e2
        injection e2 with e2
        injection e2 with e3 e4
        injection e3 with e5 e6
        exact ⟨⟨e5, e6⟩, e4⟩
      have HSM := Lib.hid (fun (W : World) (hx : Ext wr W) => same_same (rmk_of' (hp1.ext gStp hx) i1) (rmk_of' (hp2.ext gStp hx) i2))
      have t1 : (((s.toNat : Nat) : Int) != ((s.toNat : Nat) : Int)) = false := by simp
      clear e1 e2 hp1 hp2 i1 i2
      go_wp2_with fail
      refine wp_name (fun W2 eW2 => ?_)
      have e0 : W2.cell? ⟨b, o + q * 3, none⟩ = some (.slice ap p.length cp) := by rw [eW2]; go_simp
      have e1 : W2.cell? ⟨b, o + q * 3 + 1, none⟩ = some (.int .i64 d) := by rw [eW2]; go_simp
      have e2 : W2.cell? ⟨b, o + q * 3 + 2, none⟩ = some (.int .u8 s.toNat) := by rw [eW2]; go_simp
      have e3 : W2.cell? ⟨b2, o2 + q * 3, none⟩ = some (.slice ap2 p.length cp2) := by rw [eW2]; go_simp
      have e4 : W2.cell? ⟨b2, o2 + q * 3 + 1, none⟩ = some (.int .i64 d) := by rw [eW2]; go_simp
      have e5 : W2.cell? ⟨b2, o2 + q * 3 + 2, none⟩ = some (.int .u8 s.toNat) := by rw [eW2]; go_simp
      have zW2_0 : b < W2.heap.size := by rw [eW2]; first | assumption | omega | (simp <;> omega)
      have zW2_1 : b2 < W2.heap.size := by rw [eW2]; first | assumption | omega | (simp <;> omega)
      have hw2 : Ext wr W2 := by rw [eW2]; exact extA
      clear eW2
      refine wp_region_later fol (by kernel_rfl) (fun hlater => ?_)
      repeat (go_big_quiet_step ((first
          | (go_at_call 52; (with_reducible exact later_of (HSM.out _ (ext_trans hw2 (Later.ext _))))))))
      refine wpQuiet_nil ?_
      rintro w3 ⟨⟨w3x, hx3⟩, rfl⟩
      clear hlater
      go_wp2_with fail
      go_roundw
      case rel => exact ⟨q + 1, by omega, by go_num, ext_trans HX.out (ext_trans hw2 hx3)⟩
      case measure => simp [intOf]; omega
    · go_wp2
      go_ret
      exact ⟨rfl, HX.out⟩
end Go.Proofs.YtfgfdohppgoajaaGreat
/- What is wrong with a state, by the program. -/
namespace Go.Proofs.YtfgfdohppgoajaaGreat
open Go Go.RowKit Go.BigFrame Cp

set_option maxRecDepth 100000 in
set_option maxHeartbeats 4000000 in
theorem checkStateP_any {F : Nat → Prop} {w : World} {cs : List Value} {s : St} (h : RSt F w cs s) :
    Calls Tryz.prog 40 #[.agg cs.toArray] w fun e w' => e = .returned (.int .i64 (checkS s)) ∧ Ext w w' := by
  obtain ⟨va, vg, rfl, ha, hg⟩ := h
  obtain ⟨la, lg⟩ := s
  simp only at ha hg ⊢
  have HC := Lib.hid (fun (W : World) (hx : Ext w W) => checkAtomsP_any (ha.ext gAt hx))
  have HA := Lib.hid (fun (W : World) (hx : Ext w W) => ha.ext gAt hx)
  have HG := Lib.hid (fun (W : World) (hx : Ext w W) => hg.ext gMk hx)
  obtain ⟨a0, n0, c0, rfl⟩ := ha.slice
  obtain ⟨rfl, _, _⟩ := ha.len
  obtain ⟨a1, n1, c1, rfl⟩ := hg.slice
  obtain ⟨rfl, hn1, hn2⟩ := hg.len
  unfold maxLen at hn2
  have q1 : lg.length ≤ 9223372036854775807 := by omega
  clear hn1 hn2 ha hg
  by_cases h0 : checkA la = 0
  · have HOK := Lib.hid (checkA_ok h0)
    rw [h0] at HC
    have hal := HOK.out.1
    by_cases hm : 600 < lg.length
    · rw [checkS_many h0 hm]
      clear h0
      go_enter Tryz.func40, Tryz.ntmps40
      go_wp2_with (go_at_call 54; go_must ((with_reducible refine (HC.out _ extA).mono ?_); rintro e w1 ⟨rfl, hx1⟩; have x0 := (hx1.cells w.heap.size 0 (by first | omega | (simp <;> omega))).trans (show _ = some (.slice a0 la.length c0) by first | assumption | go_simp); have x1 := (hx1.cells w.heap.size 1 (by first | omega | (simp <;> omega))).trans (show _ = some (.slice a1 lg.length c1) by first | assumption | go_simp); have hz1 := hx1.size; (try simp at hz1); have hb1 : w.heap.size < w1.heap.size := (by omega); have hw1 : Ext w w1 := (ext_trans (ext_alloc (ext_refl _) _) hx1)))
      go_ret
      exact ⟨rfl, hw1⟩
    · have HM := Lib.hid (checkS_few h0 hm)
      clear h0
      go_enter Tryz.func40, Tryz.ntmps40
      go_wp2_with (go_at_call 54; go_must ((with_reducible refine (HC.out _ extA).mono ?_); rintro e w1 ⟨rfl, hx1⟩; have x0 := (hx1.cells w.heap.size 0 (by first | omega | (simp <;> omega))).trans (show _ = some (.slice a0 la.length c0) by first | assumption | go_simp); have x1 := (hx1.cells w.heap.size 1 (by first | omega | (simp <;> omega))).trans (show _ = some (.slice a1 lg.length c1) by first | assumption | go_simp); have hz1 := hx1.size; (try simp at hz1); have hb1 : w.heap.size < w1.heap.size := (by omega); have hw1 : Ext w w1 := (ext_trans (ext_alloc (ext_refl _) _) hx1)))
      have HW1 := Lib.hid hw1
      clear hx1 hw1
      go_loopw [22] (fun i wr => ∃ k : Nat, k ≤ lg.length ∧ i = .int .i64 k ∧ Hid (checkS (la, lg) = checkGF la (prevG lg k) (lg.drop k)) ∧ Ext w1 wr) (fun i _ => lg.length - (intOf i).toNat)
      case atStart => exact ⟨0, Nat.zero_le _, rfl, HM, ext_refl _⟩
      case round =>
        obtain ⟨k, hk, rfl, HI, hx⟩ := hrel
        have z0 := (hx.cells w.heap.size 0 hb1).trans x0
        have z1 := (hx.cells w.heap.size 1 hb1).trans x1
        have hzr := hx.size
        have hbr : w.heap.size < wr.heap.size := by omega
        have HX := Lib.hid (ext_trans HW1.out hx)
        have HXR := Lib.hid hx
        clear hx
        by_cases hlt : k < lg.length
        · obtain ⟨b, o, p, c, ap, cp, rfl, hb, ek, ick, hpp, y0, y1⟩ := mark_at (HG.out wr HX.out) hlt
          have HPX := Lib.hid (fun (W : World) (hx : Ext wr W) => (rmk_of' (hpp.ext gStp hx) ick))
          have HCM := Lib.hid (fun (W : World) (hx : Ext wr W) => check_any (HPX.out W hx))
          have HEK := Lib.hid ek
          have hn1 : ¬ b = wr.heap.size := by omega
          have hn2 : ¬ wr.heap.size = b := by omega
          have hn3 : ¬ w.heap.size = wr.heap.size := by omega
          have hn4 : ¬ wr.heap.size = w.heap.size := by omega
          clear hpp ick ek
          by_cases g1 : checkM (p, c) = 0
          · have HG1 := Lib.hid g1
            rw [g1] at HCM
            clear g1
            go_wp2_with (go_at_call 58; go_must ((with_reducible refine (HCM.out _ extA).mono ?_); rintro e w2 ⟨rfl, hx2⟩; have v0 := (hx2.cells (w.heap.size) (0) (by first | omega | (simp <;> omega))).trans (show _ = some (.slice a0 la.length c0) by first | assumption | go_simp); have v1 := (hx2.cells (w.heap.size) (1) (by first | omega | (simp <;> omega))).trans (show _ = some (.slice (some ⟨b, o, none⟩) lg.length c1) by first | assumption | go_simp); have v2 := (hx2.cells (b) (o + k * 2) (by first | omega | (simp <;> omega))).trans (show _ = some (.slice ap p.length cp) by first | assumption | go_simp); have v3 := (hx2.cells (b) (o + k * 2 + 1) (by first | omega | (simp <;> omega))).trans (show _ = some (.int .i64 c) by first | assumption | go_simp); have v4 := (hx2.cells (wr.heap.size) (0) (by first | omega | (simp <;> omega))).trans (show _ = some (.slice ap p.length cp) by first | assumption | go_simp); have v5 := (hx2.cells (wr.heap.size) (1) (by first | omega | (simp <;> omega))).trans (show _ = some (.int .i64 c) by first | assumption | go_simp); have hz2 := hx2.size; (try simp at hz2); have HX2 := Lib.hid hx2; clear hx2))
            have hb2 : w.heap.size < w2.heap.size := by omega
            have hb3 : b < w2.heap.size := by omega
            have hb4 : wr.heap.size < w2.heap.size := by omega
            by_cases hk0 : k = 0
            · have t8 : decide (0 < (k : Int)) = false := decide_eq_false (by omega)
              have t8b : decide (0 < k) = false := decide_eq_false (by omega)
              have HF := Lib.hid (HI.out.trans (checkGF_first (ats := la) HEK.out HG1.out hk0))
              clear hk0
              refine wp_name (fun W2 eW2 => ?_)
              have e0 : W2.cell? ⟨w.heap.size, 0, none⟩ = some (.slice a0 la.length c0) := by rw [eW2]; go_simp
              have e1 : W2.cell? ⟨w.heap.size, 1, none⟩ = some (.slice (some ⟨b, o, none⟩) lg.length c1) := by rw [eW2]; go_simp
              have e2 : W2.cell? ⟨b, o + k * 2, none⟩ = some (.slice ap p.length cp) := by rw [eW2]; go_simp
              have e3 : W2.cell? ⟨b, o + k * 2 + 1, none⟩ = some (.int .i64 c) := by rw [eW2]; go_simp
              have e4 : W2.cell? ⟨wr.heap.size, 0, none⟩ = some (.slice ap p.length cp) := by rw [eW2]; go_simp
              have e5 : W2.cell? ⟨wr.heap.size, 1, none⟩ = some (.int .i64 c) := by rw [eW2]; go_simp
              have zW2_0 : w.heap.size < W2.heap.size := by rw [eW2]; first | assumption | omega | (simp <;> omega)
              have zW2_1 : b < W2.heap.size := by rw [eW2]; first | assumption | omega | (simp <;> omega)
              have zW2_2 : wr.heap.size < W2.heap.size := by rw [eW2]; first | assumption | omega | (simp <;> omega)
              have hw2 : Ext wr W2 := by rw [eW2]; exact ext_trans (ext_alloc (ext_refl _) _) (ext_trans HX2.out extA)
              clear eW2
              refine wp_region_later fol (by kernel_rfl) (fun hlater => ?_)
              repeat (go_big_quiet_step ((fail)))
              refine wpQuiet_nil ?_
              rintro w3 ⟨⟨w3x, hx3⟩, rfl⟩
              clear hlater
              have x5 := hx3.cells
              have u0 := (hx3.cells (w.heap.size) (0) (by omega)).trans e0
              have u1 := (hx3.cells (w.heap.size) (1) (by omega)).trans e1
              have u2 := (hx3.cells (b) (o + k * 2) (by omega)).trans e2
              have u3 := (hx3.cells (b) (o + k * 2 + 1) (by omega)).trans e3
              have u4 := (hx3.cells (wr.heap.size) (0) (by omega)).trans e4
              have u5 := (hx3.cells (wr.heap.size) (1) (by omega)).trans e5
              have hz3 := hx3.size
              have hw3 : Ext wr w3 := ext_trans hw2 hx3
              clear x5
              have HFD := Lib.hid (fun (W : World) (hx : Ext wr W) => findA_any (HA.out W (ext_trans HX.out hx)) (HPX.out W hx) HOK.out.2.1 (by omega))
              cases g5 : hasM la (p, c) with
              | true =>
                rw [g5] at HFD
                have HF2 := Lib.hid (HF.out.trans (by rw [if_pos g5]))
                generalize placeA la (p, c) = pl at *
                go_wp2_with (go_at_call 86; go_must ((with_reducible refine (HFD.out _ (ext_trans hw3 extA)).mono ?_); rintro e w4 ⟨rfl, hx4⟩))
                go_ret
                exact ⟨ri HF2.out.symm, ext_trans HX.out (ext_trans hw3 hx4)⟩
              | false =>
                rw [g5] at HFD
                have HF2 := Lib.hid (HF.out.trans (by rw [if_neg (by rw [g5]; simp)]))
                generalize placeA la (p, c) = pl at *
                go_wp2_with (go_at_call 86; go_must ((with_reducible refine (HFD.out _ (ext_trans hw3 extA)).mono ?_); rintro e w4 ⟨rfl, hx4⟩))
                go_roundw
                case rel => exact ⟨k + 1, by omega, by go_num, HF2, ext_trans HXR.out (ext_trans hw3 hx4)⟩
                case measure => simp [intOf]; omega
            · have hk1 : 0 < k := by omega
              have t8 : decide (0 < (k : Int)) = true := decide_eq_true (by omega)
              have t8b : decide (0 < k) = true := decide_eq_true (by omega)
              clear hk0
              obtain ⟨b', o', p1, d1, ap1, cp1, ea, _, ek1, ic1, hp1, u0, u1⟩ := mark_at (HG.out wr HX.out) (i := k - 1) (by omega)
              obtain ⟨rfl, rfl⟩ : b = b' ∧ o = o' := by injection ea with ea; injection ea with ea1 ea2; exact ⟨ea1, ea2⟩
              clear ea
              have HP1 := Lib.hid (fun (W : World) (hx : Ext wr W) => (rmk_of' (hp1.ext gStp hx) ic1))
              have HOR := Lib.hid (fun (W : World) (hx : Ext wr W) => order_any (HP1.out W hx) (HPX.out W hx))
              have HE1 := Lib.hid ek1
              clear hp1 ic1 ek1
              have x6 := (HX2.out.cells b (o + (k - 1) * 2) (by first | omega | (simp <;> omega))).trans (show _ = some (.slice ap1 p1.length cp1) by first | assumption | go_simp)
              have x7 := (HX2.out.cells b (o + (k - 1) * 2 + 1) (by first | omega | (simp <;> omega))).trans (show _ = some (.int .i64 d1) by first | assumption | go_simp)
              by_cases g4 : 0 ≤ ordM (p1, d1) (p, c)
              · have HF := Lib.hid (HI.out.trans (checkGF_bad (ats := la) HEK.out HE1.out hk1 HG1.out g4))
                have t9 : decide (0 ≤ ordM (p1, d1) (p, c)) = true := decide_eq_true g4
                generalize ordM (p1, d1) (p, c) = od at *
                clear g4 HE1
                refine wp_name (fun W2 eW2 => ?_)
                have e0 : W2.cell? ⟨w.heap.size, 0, none⟩ = some (.slice a0 la.length c0) := by rw [eW2]; go_simp
                have e1 : W2.cell? ⟨w.heap.size, 1, none⟩ = some (.slice (some ⟨b, o, none⟩) lg.length c1) := by rw [eW2]; go_simp
                have e2 : W2.cell? ⟨b, o + k * 2, none⟩ = some (.slice ap p.length cp) := by rw [eW2]; go_simp
                have e3 : W2.cell? ⟨b, o + k * 2 + 1, none⟩ = some (.int .i64 c) := by rw [eW2]; go_simp
                have e4 : W2.cell? ⟨wr.heap.size, 0, none⟩ = some (.slice ap p.length cp) := by rw [eW2]; go_simp
                have e5 : W2.cell? ⟨wr.heap.size, 1, none⟩ = some (.int .i64 c) := by rw [eW2]; go_simp
                have e6 : W2.cell? ⟨b, o + (k - 1) * 2, none⟩ = some (.slice ap1 p1.length cp1) := by rw [eW2]; go_simp
                have e7 : W2.cell? ⟨b, o + (k - 1) * 2 + 1, none⟩ = some (.int .i64 d1) := by rw [eW2]; go_simp
                have zW2_0 : w.heap.size < W2.heap.size := by rw [eW2]; first | assumption | omega | (simp <;> omega)
                have zW2_1 : b < W2.heap.size := by rw [eW2]; first | assumption | omega | (simp <;> omega)
                have zW2_2 : wr.heap.size < W2.heap.size := by rw [eW2]; first | assumption | omega | (simp <;> omega)
                have hw2 : Ext wr W2 := by rw [eW2]; exact ext_trans (ext_alloc (ext_refl _) _) (ext_trans HX2.out extA)
                clear eW2
                refine wp_region_later fol (by kernel_rfl) (fun hlater => ?_)
                repeat (go_big_quiet_step ((first
                    | (go_at_call 59; (with_reducible exact later_of (HOR.out _ (ext_trans hw2 (Later.ext _))))))))
                refine wpQuiet_nil ?_
                rintro w3 ⟨⟨w3x, hx3⟩, rfl⟩
                clear hlater
                go_wp2_with fail
                go_ret
                exact ⟨ri HF.out.symm, ext_trans HX.out (ext_trans hw2 hx3)⟩
              · have HF := Lib.hid (HI.out.trans (checkGF_next (ats := la) HEK.out HE1.out hk1 HG1.out g4))
                have t9 : decide (0 ≤ ordM (p1, d1) (p, c)) = false := decide_eq_false g4
                generalize ordM (p1, d1) (p, c) = od at *
                clear g4 HE1
                refine wp_name (fun W2 eW2 => ?_)
                have e0 : W2.cell? ⟨w.heap.size, 0, none⟩ = some (.slice a0 la.length c0) := by rw [eW2]; go_simp
                have e1 : W2.cell? ⟨w.heap.size, 1, none⟩ = some (.slice (some ⟨b, o, none⟩) lg.length c1) := by rw [eW2]; go_simp
                have e2 : W2.cell? ⟨b, o + k * 2, none⟩ = some (.slice ap p.length cp) := by rw [eW2]; go_simp
                have e3 : W2.cell? ⟨b, o + k * 2 + 1, none⟩ = some (.int .i64 c) := by rw [eW2]; go_simp
                have e4 : W2.cell? ⟨wr.heap.size, 0, none⟩ = some (.slice ap p.length cp) := by rw [eW2]; go_simp
                have e5 : W2.cell? ⟨wr.heap.size, 1, none⟩ = some (.int .i64 c) := by rw [eW2]; go_simp
                have e6 : W2.cell? ⟨b, o + (k - 1) * 2, none⟩ = some (.slice ap1 p1.length cp1) := by rw [eW2]; go_simp
                have e7 : W2.cell? ⟨b, o + (k - 1) * 2 + 1, none⟩ = some (.int .i64 d1) := by rw [eW2]; go_simp
                have zW2_0 : w.heap.size < W2.heap.size := by rw [eW2]; first | assumption | omega | (simp <;> omega)
                have zW2_1 : b < W2.heap.size := by rw [eW2]; first | assumption | omega | (simp <;> omega)
                have zW2_2 : wr.heap.size < W2.heap.size := by rw [eW2]; first | assumption | omega | (simp <;> omega)
                have hw2 : Ext wr W2 := by rw [eW2]; exact ext_trans (ext_alloc (ext_refl _) _) (ext_trans HX2.out extA)
                clear eW2
                refine wp_region_later fol (by kernel_rfl) (fun hlater => ?_)
                repeat (go_big_quiet_step ((first
                    | (go_at_call 59; (with_reducible exact later_of (HOR.out _ (ext_trans hw2 (Later.ext _))))))))
                refine wpQuiet_nil ?_
                rintro w3 ⟨⟨w3x, hx3⟩, rfl⟩
                clear hlater
                have x5 := hx3.cells
                have u0 := (hx3.cells (w.heap.size) (0) (by omega)).trans e0
                have u1 := (hx3.cells (w.heap.size) (1) (by omega)).trans e1
                have u2 := (hx3.cells (b) (o + k * 2) (by omega)).trans e2
                have u3 := (hx3.cells (b) (o + k * 2 + 1) (by omega)).trans e3
                have u4 := (hx3.cells (wr.heap.size) (0) (by omega)).trans e4
                have u5 := (hx3.cells (wr.heap.size) (1) (by omega)).trans e5
                have hz3 := hx3.size
                have hw3 : Ext wr w3 := ext_trans hw2 hx3
                clear x5
                have HFD := Lib.hid (fun (W : World) (hx : Ext wr W) => findA_any (HA.out W (ext_trans HX.out hx)) (HPX.out W hx) HOK.out.2.1 (by omega))
                cases g5 : hasM la (p, c) with
                | true =>
                  rw [g5] at HFD
                  have HF2 := Lib.hid (HF.out.trans (by rw [if_pos g5]))
                  generalize placeA la (p, c) = pl at *
                  go_wp2_with (go_at_call 86; go_must ((with_reducible refine (HFD.out _ (ext_trans hw3 extA)).mono ?_); rintro e w4 ⟨rfl, hx4⟩))
                  go_ret
                  exact ⟨ri HF2.out.symm, ext_trans HX.out (ext_trans hw3 hx4)⟩
                | false =>
                  rw [g5] at HFD
                  have HF2 := Lib.hid (HF.out.trans (by rw [if_neg (by rw [g5]; simp)]))
                  generalize placeA la (p, c) = pl at *
                  go_wp2_with (go_at_call 86; go_must ((with_reducible refine (HFD.out _ (ext_trans hw3 extA)).mono ?_); rintro e w4 ⟨rfl, hx4⟩))
                  go_roundw
                  case rel => exact ⟨k + 1, by omega, by go_num, HF2, ext_trans HXR.out (ext_trans hw3 hx4)⟩
                  case measure => simp [intOf]; omega
          · have HF := Lib.hid (HI.out.trans (checkGF_mark HEK.out g1))
            have t1 : (checkM (p, c) != 0) = true := by simpa using g1
            generalize checkM (p, c) = m at *
            clear g1
            go_wp2_with (go_at_call 58; go_must ((with_reducible refine (HCM.out _ extA).mono ?_); rintro e w2 ⟨rfl, hx2⟩; have v0 := (hx2.cells (w.heap.size) (0) (by first | omega | (simp <;> omega))).trans (show _ = some (.slice a0 la.length c0) by first | assumption | go_simp); have v1 := (hx2.cells (w.heap.size) (1) (by first | omega | (simp <;> omega))).trans (show _ = some (.slice (some ⟨b, o, none⟩) lg.length c1) by first | assumption | go_simp); have v2 := (hx2.cells (b) (o + k * 2) (by first | omega | (simp <;> omega))).trans (show _ = some (.slice ap p.length cp) by first | assumption | go_simp); have v3 := (hx2.cells (b) (o + k * 2 + 1) (by first | omega | (simp <;> omega))).trans (show _ = some (.int .i64 c) by first | assumption | go_simp); have v4 := (hx2.cells (wr.heap.size) (0) (by first | omega | (simp <;> omega))).trans (show _ = some (.slice ap p.length cp) by first | assumption | go_simp); have v5 := (hx2.cells (wr.heap.size) (1) (by first | omega | (simp <;> omega))).trans (show _ = some (.int .i64 c) by first | assumption | go_simp); have hz2 := hx2.size; (try simp at hz2); have HX2 := Lib.hid hx2; clear hx2))
            go_ret
            exact ⟨ri HF.out.symm, ext_trans HX.out (ext_trans (ext_alloc (ext_refl _) _) HX2.out)⟩
        · go_wp2
          go_ret
          exact ⟨ri (by rw [HI.out, checkGF_end (by omega)]), HX.out⟩
  · rw [checkS_atoms h0]
    have t1 : (checkA la != 0) = true := by simpa using h0
    generalize checkA la = r at *
    clear h0
    go_enter Tryz.func40, Tryz.ntmps40
    go_wp2_with (go_at_call 54; go_must ((with_reducible refine (HC.out _ extA).mono ?_); rintro e w1 ⟨rfl, hx1⟩; have x0 := (hx1.cells w.heap.size 0 (by first | omega | (simp <;> omega))).trans (show _ = some (.slice a0 la.length c0) by first | assumption | go_simp); have x1 := (hx1.cells w.heap.size 1 (by first | omega | (simp <;> omega))).trans (show _ = some (.slice a1 lg.length c1) by first | assumption | go_simp); have hz1 := hx1.size; (try simp at hz1); have hb1 : w.heap.size < w1.heap.size := (by omega); have hw1 : Ext w w1 := (ext_trans (ext_alloc (ext_refl _) _) hx1)))
    go_ret
    exact ⟨rfl, hw1⟩
end Go.Proofs.YtfgfdohppgoajaaGreat
/- Places in a text. -/
namespace Go.Proofs.YtfgfdohppgoajaaGreat
open Go Go.RowKit Cp

/-- what is wrong with a plain text -/
def textE (s : Tx) : Int := if 300 < s.length then 2 else if signsB s = false then 3 else 0
theorem text_any (s : ByteArray) (w : World) (hs : s.size ≤ maxLen) : Calls Tryz.prog 77 #[.string s] w fun e w' => e = .returned (.int .i64 (textE s.data.toList)) ∧ w = w' := by
  have hl : s.data.toList.length = s.size := by simp
  have hs' := hs
  unfold maxLen at hs
  by_cases h : 300 < s.size
  · have e1 : textE s.data.toList = 2 := by unfold textE; rw [if_pos (by omega)]
    rw [e1]
    clear e1 hl
    go_enter Tryz.func77, Tryz.ntmps77
    go_wp2_with fail
    go_ret
    exact ⟨rfl, rfl⟩
  · cases g : signsB s.data.toList with
    | true =>
      have e1 : textE s.data.toList = 0 := by unfold textE; rw [if_neg (by omega), g]; rfl
      rw [e1]
      clear e1 hl
      go_enter Tryz.func77, Tryz.ntmps77
      go_wp2_with (go_at_call 47; ((with_reducible refine (signs_any _ _ hs').mono ?_); rintro e w' ⟨rfl, rfl⟩))
      go_ret
      exact ⟨rfl, rfl⟩
    | false =>
      have e1 : textE s.data.toList = 3 := by unfold textE; rw [if_neg (by omega), g]; rfl
      rw [e1]
      clear e1 hl
      go_enter Tryz.func77, Tryz.ntmps77
      go_wp2_with (go_at_call 47; ((with_reducible refine (signs_any _ _ hs').mono ?_); rintro e w' ⟨rfl, rfl⟩))
      go_ret
      exact ⟨rfl, rfl⟩

theorem inside_any (a m n : Int) (w : World) (ha : I64 a) (hm : I64 m) (hn : 0 ≤ n ∧ n ≤ 1000) :
    Calls Tryz.prog 43 #[.int .i64 a, .int .i64 m, .int .i64 n] w fun e w' => e = .returned (.bool (insideB a m n)) ∧ w = w' := by
  obtain ⟨a1, a2⟩ := ha
  obtain ⟨m1, m2⟩ := hm
  obtain ⟨n1, n2⟩ := hn
  by_cases h1 : 0 ≤ a
  · by_cases h2 : 0 ≤ m
    · by_cases h3 : a ≤ n
      · have e1 : insideB a m n = decide (m ≤ n - a) := by unfold insideB; rw [decide_eq_true h1, decide_eq_true h2, decide_eq_true h3]; rfl
        rw [e1]; clear e1
        go_enter Tryz.func43, Tryz.ntmps43
        go_wp2
        go_ret
        exact ⟨rfl, rfl⟩
      · have e1 : insideB a m n = false := by unfold insideB; rw [decide_eq_false h3]; simp
        rw [e1]; clear e1
        go_enter Tryz.func43, Tryz.ntmps43
        go_wp2
        go_ret
        exact ⟨rfl, rfl⟩
    · have e1 : insideB a m n = false := by unfold insideB; rw [decide_eq_false h2]; simp
      rw [e1]; clear e1
      go_enter Tryz.func43, Tryz.ntmps43
      go_wp2
      go_ret
      exact ⟨rfl, rfl⟩
  · have e1 : insideB a m n = false := by unfold insideB; rw [decide_eq_false h1]; simp
    rw [e1]; clear e1
    go_enter Tryz.func43, Tryz.ntmps43
    go_wp2
    go_ret
    exact ⟨rfl, rfl⟩
end Go.Proofs.YtfgfdohppgoajaaGreat
/- Is a mark of a site, with a clock that is not less: by the program and by the document; the closures of edit.Put. -/
namespace Go.Proofs.YtfgfdohppgoajaaGreat
open Go Go.RowKit Go.BigFrame Cp

def laterB (site clock : Int) (m : Mk) : Bool := (lastSite m.1 == site) && decide (clock ≤ m.2)
/-- an int in a box of its own -/
def BoxIn (g : Nat) (n : Int) (w : World) : Prop := w.cell? ⟨g, 0, none⟩ = some (.int .i64 n) ∧ g < w.heap.size
theorem boxIn_ext {g : Nat} {n : Int} {w W : World} (h : BoxIn g n w) (hx : Ext w W) : BoxIn g n W := ⟨(hx.cells _ _ h.2).trans h.1, Nat.lt_of_lt_of_le h.2 hx.size⟩
/-- edit.Put's first closure in a box of its own -/
def BoxF (r g k : Nat) (w : World) : Prop := w.cell? ⟨r, 0, none⟩ = some (.func (.func 41) #[] #[.pointer (some ⟨g, 0, none⟩), .pointer (some ⟨k, 0, none⟩)]) ∧ r < w.heap.size
theorem boxF_ext {r g k : Nat} {w W : World} (h : BoxF r g k w) (hx : Ext w W) : BoxF r g k W := ⟨(hx.cells _ _ h.2).trans h.1, Nat.lt_of_lt_of_le h.2 hx.size⟩
theorem path_last {m : Mk} (h : checkM m = 0) : ∃ k : Nat, m.1.length = k + 1 ∧ k ≤ 9 := by
  have h1 := checkM_ok.1 h
  have h2 := List.length_pos_iff.2 h1.2.1
  exact ⟨m.1.length - 1, by omega, by omega⟩
theorem lastSite_get {l : List Stp} {k : Nat} {x y : Int} (hl : l.length = k + 1) (h : l[k]? = some (x, y)) : lastSite l = y := lastSite_at (by rw [hl]; exact h)
set_option maxRecDepth 100000 in
set_option maxHeartbeats 4000000 in
theorem lastSite_any {F : Nat → Prop} {w : World} {cs : List Value} {m : Mk} (h : RMk F w cs m) (hc : checkM m = 0) :
    Calls Tryz.prog 81 #[.agg cs.toArray] w fun e w' => e = .returned (.int .i64 (lastSite m.1)) ∧ Ext w w' := by
  obtain ⟨v, rfl, hl, _⟩ := h
  obtain ⟨l, c⟩ := m
  simp only at hl ⊢
  obtain ⟨a, n, c1, rfl⟩ := hl.slice
  obtain rfl : n = l.length := hl.len.1
  obtain ⟨k, hk, hk9⟩ := path_last hc
  simp only at hk
  rw [hk] at hl ⊢
  obtain ⟨b, o, x, y, rfl, hb, ek, _, _, y0, y1⟩ := stp_at hl (Nat.lt_succ_self k)
  rw [lastSite_get hk ek]
  have hbn : ¬ b = w.heap.size := by omega
  clear hl ek hc hk
  go_enter Tryz.func81, Tryz.ntmps81
  go_wp2_with fail
  go_ret
  exact ⟨rfl, extA⟩
set_option maxRecDepth 100000 in
set_option maxHeartbeats 4000000 in
theorem later_any {F : Nat → Prop} {w : World} {cs : List Value} {m : Mk} {site clock : Int} (h : RMk F w cs m) (hc : checkM m = 0) :
    Calls Tryz.prog 42 #[.agg cs.toArray, .int .i64 site, .int .i64 clock] w fun e w' => e = .returned (.bool (laterB site clock m)) ∧ Ext w w' := by
  obtain ⟨v, rfl, hl, _⟩ := h
  obtain ⟨l, c⟩ := m
  simp only at hl ⊢
  obtain ⟨a, n, c1, rfl⟩ := hl.slice
  obtain rfl : n = l.length := hl.len.1
  obtain ⟨k, hk, hk9⟩ := path_last hc
  simp only at hk
  rw [hk] at hl ⊢
  obtain ⟨b, o, x, y, rfl, hb, ek, _, _, y0, y1⟩ := stp_at hl (Nat.lt_succ_self k)
  have e : laterB site clock (l, c) = ((y == site) && decide (clock ≤ c)) := by unfold laterB; rw [lastSite_get hk ek]
  rw [e]
  have hbn : ¬ b = w.heap.size := by omega
  clear hl ek hc hk e
  cases t1 : (y == site) with
  | true =>
    obtain rfl : y = site := by simpa using t1
    cases t2 : decide (clock ≤ c) with
    | true =>
      go_enter Tryz.func42, Tryz.ntmps42
      go_wp2_with fail
      go_ret
      exact ⟨rfl, extA⟩
    | false =>
      go_enter Tryz.func42, Tryz.ntmps42
      go_wp2_with fail
      go_ret
      exact ⟨rfl, extA⟩
  | false =>
    go_enter Tryz.func42, Tryz.ntmps42
    go_wp2_with fail
    go_ret
    exact ⟨rfl, extA⟩
set_option maxRecDepth 100000 in
set_option maxHeartbeats 4000000 in
theorem put1_any {F : Nat → Prop} {w : World} {cs : List Value} {m : Mk} {site clock : Int} {g k : Nat} (h : RMk F w cs m) (hc : checkM m = 0) (hg : BoxIn g site w) (hk : BoxIn k clock w) :
    Calls Tryz.prog 41 #[.agg cs.toArray, .pointer (some ⟨g, 0, none⟩), .pointer (some ⟨k, 0, none⟩)] w fun e w' => e = .returned (.bool (laterB site clock m)) ∧ Ext w w' := by
  have HL := Lib.hid (fun (W : World) (hx : Ext w W) => later_any (site := site) (clock := clock) (gMk.ext h hx) hc)
  obtain ⟨g0, g1⟩ := hg
  obtain ⟨k0, k1⟩ := hk
  obtain ⟨v, rfl, hl, _⟩ := h
  obtain ⟨a, n, c, rfl⟩ := hl.slice
  have hgn : ¬ g = w.heap.size := by omega
  have hkn : ¬ k = w.heap.size := by omega
  clear hl hc
  go_enter Tryz.func41, Tryz.ntmps41
  go_wp2_with (first | (go_at_call 42; go_must ((with_reducible refine (HL.out _ extA).mono ?_); rintro e w1 ⟨rfl, hx1⟩; skip)))
  go_ret
  exact ⟨rfl, extA⟩
set_option maxRecDepth 100000 in
set_option maxHeartbeats 4000000 in
theorem put2_any {F : Nat → Prop} {w : World} {cs : List Value} {a : At} {site clock : Int} {g k r : Nat} (h : RAt F w cs a) (hc : checkM a.1 = 0) (hg : BoxIn g site w) (hk : BoxIn k clock w) (hr : BoxF r g k w) :
    Calls Tryz.prog 46 #[.agg cs.toArray, .pointer (some ⟨r, 0, none⟩)] w fun e w' => e = .returned (.bool (laterB site clock a.1)) ∧ Ext w w' := by
  obtain ⟨v, rfl, hl, hi⟩ := h
  obtain ⟨⟨p, d⟩, s⟩ := a
  simp only at hl hi hc ⊢
  have HL := Lib.hid (fun (W : World) (hx : Ext w W) => put1_any (rmk_of' (hl.ext gStp hx) hi) hc (boxIn_ext hg hx) (boxIn_ext hk hx))
  obtain ⟨r0, r1⟩ := hr
  obtain ⟨aa, n, c, rfl⟩ := hl.slice
  have hrn : ¬ r = w.heap.size := by omega
  clear hl hc hg hk
  go_enter Tryz.func46, Tryz.ntmps46
  go_wp2_with (first | (go_at_call 41; go_must ((with_reducible refine (HL.out _ extA).mono ?_); rintro e w1 ⟨rfl, hx1⟩; skip)))
  go_ret
  exact ⟨rfl, extA⟩
set_option maxRecDepth 100000 in
set_option maxHeartbeats 4000000 in
theorem idxLm_any {F : Nat → Prop} {w : World} {v : Value} {l : List Mk} {site clock : Int} {g k : Nat} (h : RSl RMk 2 F w v l) (hc : ∀ x ∈ l, checkM x = 0) (hg : BoxIn g site w) (hk : BoxIn k clock w) :
    Calls Tryz.prog 87 #[v, .func (.func 41) #[] #[.pointer (some ⟨g, 0, none⟩), .pointer (some ⟨k, 0, none⟩)]] w (IsIdx (l.any fun x => laterB site clock x) w) := by
  obtain ⟨a1, n1, c1, rfl⟩ := h.slice
  obtain ⟨rfl, k1, k1'⟩ := h.len
  unfold maxLen at k1'
  have q1 : l.length ≤ 9223372036854775807 := by omega
  clear k1 k1'
  have HL := Lib.hid h
  obtain ⟨p, hp⟩ : ∃ p : Mk → Bool, p = fun x => laterB site clock x := ⟨_, rfl⟩
  rw [← hp]
  have HP := Lib.hid (fun (W : World) (hx : Ext w W) (F' : Nat → Prop) (cs : List Value) (x : Mk) (hx' : x ∈ l) (h' : RMk F' W cs x) => (show Calls Tryz.prog 41 #[.agg cs.toArray, .pointer (some ⟨g, 0, none⟩), .pointer (some ⟨k, 0, none⟩)] W (fun e w' => e = .returned (.bool (p x)) ∧ Ext W w') from by rw [hp]; exact put1_any h' (hc x hx') (boxIn_ext hg hx) (boxIn_ext hk hx)))
  clear h hg hk hp hc
  go_enter Tryz.func87, Tryz.ntmps87
  go_wp2
  go_loopw [8] (fun i wr => ∃ j : Nat, j ≤ l.length ∧ i = .int .i64 j ∧ Hid ((l.take j).any p = false) ∧ Ext w wr) (fun i _ => l.length - (intOf i).toNat)
  case atStart => exact ⟨0, by omega, rfl, Lib.hid (by simp), ext_refl _⟩
  case round =>
    obtain ⟨j, hk1, rfl, ho, hx⟩ := hrel
    have HX := Lib.hid hx
    clear hx
    by_cases h1 : j < l.length
    · obtain ⟨b1, o1, p1, d1, ap, cp, rfl, hb1, e1, ick, hpp, y0, y1⟩ := mark_at (HL.out.ext gMk HX.out) h1
      have HA := Lib.hid (anyp_step (p := p) e1)
      have hmem := List.mem_of_getElem? e1
      have HC0 := Lib.hid (fun (W : World) (hx : Ext wr W) => HP.out W (ext_trans HX.out hx) _ _ _ hmem (rmk_of' (hpp.ext gStp hx) ick))
      clear e1 hb1 hpp ick hmem
      cases g1 : p (p1, d1) with
      | true =>
        have HC := Lib.hid (anyp_of_take (k := j + 1) (by rw [HA.out, ho.out, g1]; rfl))
        rw [g1] at HC0
        go_wp2_with (go_at_call 41; go_must ((with_reducible refine (HC0.out _ extA).mono ?_); rintro e w1 ⟨rfl, hx1⟩; skip))
        go_ret
        exact ⟨j, by rw [HC.out]; simp, rfl, ext_trans HX.out hx1⟩
      | false =>
        have HD := Lib.hid (show (l.take (j + 1)).any p = false by rw [HA.out, ho.out, g1]; rfl)
        rw [g1] at HC0
        go_wp2_with (go_at_call 41; go_must ((with_reducible refine (HC0.out _ extA).mono ?_); rintro e w1 ⟨rfl, hx1⟩; skip))
        go_roundw
        case rel => exact ⟨j + 1, by omega, by go_num, HD, ext_trans HX.out hx1⟩
        case measure => simp [intOf]; omega
    · have hk : j = l.length := by omega
      subst hk
      have ho' := ho.out
      rw [List.take_of_length_le (Nat.le_refl _)] at ho'
      have HO := Lib.hid ho'
      clear ho ho'
      go_wp2
      go_ret
      exact ⟨-1, by rw [HO.out]; rfl, rfl, HX.out⟩
set_option maxRecDepth 100000 in
set_option maxHeartbeats 4000000 in
theorem containsLm_any {F : Nat → Prop} {w : World} {v : Value} {l : List Mk} {site clock : Int} {g k : Nat} (h : RSl RMk 2 F w v l) (hc : ∀ x ∈ l, checkM x = 0) (hg : BoxIn g site w) (hk : BoxIn k clock w) :
    Calls Tryz.prog 44 #[v, .func (.func 41) #[] #[.pointer (some ⟨g, 0, none⟩), .pointer (some ⟨k, 0, none⟩)]] w fun e w' => e = .returned (.bool (l.any fun x => laterB site clock x)) ∧ Ext w w' := by
  have H := Lib.hid (idxLm_any h hc hg hk)
  clear h hc hg hk
  go_enter Tryz.func44, Tryz.ntmps44
  go_wp2_with (go_at_call 87; refine H.out.mono ?_; rintro e w1 ⟨n, hn, rfl, hx1⟩; have HN := Lib.hid hn; clear hn)
  go_ret
  exact ⟨rb HN.out, hx1⟩
set_option maxRecDepth 100000 in
set_option maxHeartbeats 4000000 in
theorem idxLa_any {F : Nat → Prop} {w : World} {v : Value} {l : List At} {site clock : Int} {g k r : Nat} (h : RSl RAt 3 F w v l) (hc : ∀ x ∈ l, checkM x.1 = 0) (hg : BoxIn g site w) (hk : BoxIn k clock w) (hr : BoxF r g k w) :
    Calls Tryz.prog 88 #[v, .func (.func 46) #[] #[.pointer (some ⟨r, 0, none⟩)]] w (IsIdx (l.any fun x => laterB site clock x.1) w) := by
  obtain ⟨a1, n1, c1, rfl⟩ := h.slice
  obtain ⟨rfl, k1, k1'⟩ := h.len
  unfold maxLen at k1'
  have q1 : l.length ≤ 9223372036854775807 := by omega
  clear k1 k1'
  have HL := Lib.hid h
  obtain ⟨p, hp⟩ : ∃ p : At → Bool, p = fun x => laterB site clock x.1 := ⟨_, rfl⟩
  rw [← hp]
  have HP := Lib.hid (fun (W : World) (hx : Ext w W) (F' : Nat → Prop) (cs : List Value) (x : At) (hx' : x ∈ l) (h' : RAt F' W cs x) => (show Calls Tryz.prog 46 #[.agg cs.toArray, .pointer (some ⟨r, 0, none⟩)] W (fun e w' => e = .returned (.bool (p x)) ∧ Ext W w') from by rw [hp]; exact put2_any h' (hc x hx') (boxIn_ext hg hx) (boxIn_ext hk hx) (boxF_ext hr hx)))
  clear h hg hk hp hc hr
  go_enter Tryz.func88, Tryz.ntmps88
  go_wp2
  go_loopw [8] (fun i wr => ∃ j : Nat, j ≤ l.length ∧ i = .int .i64 j ∧ Hid ((l.take j).any p = false) ∧ Ext w wr) (fun i _ => l.length - (intOf i).toNat)
  case atStart => exact ⟨0, by omega, rfl, Lib.hid (by simp), ext_refl _⟩
  case round =>
    obtain ⟨j, hk1, rfl, ho, hx⟩ := hrel
    have HX := Lib.hid hx
    clear hx
    by_cases h1 : j < l.length
    · obtain ⟨b1, o1, p1, d1, s1, ap, cp, rfl, hb1, e1, ick, hpp, y0, y1, y2⟩ := atm_at (HL.out.ext gAt HX.out) h1
      have HA := Lib.hid (anyp_step (p := p) e1)
      have hmem := List.mem_of_getElem? e1
      have HC0 := Lib.hid (fun (W : World) (hx : Ext wr W) => HP.out W (ext_trans HX.out hx) _ _ _ hmem (rat_of (s := s1) (hpp.ext gStp hx) ick))
      clear e1 hb1 hpp ick hmem
      cases g1 : p ((p1, d1), s1) with
      | true =>
        have HC := Lib.hid (anyp_of_take (k := j + 1) (by rw [HA.out, ho.out, g1]; rfl))
        rw [g1] at HC0
        go_wp2_with (go_at_call 46; go_must ((with_reducible refine (HC0.out _ extA).mono ?_); rintro e w1 ⟨rfl, hx1⟩; skip))
        go_ret
        exact ⟨j, by rw [HC.out]; simp, rfl, ext_trans HX.out hx1⟩
      | false =>
        have HD := Lib.hid (show (l.take (j + 1)).any p = false by rw [HA.out, ho.out, g1]; rfl)
        rw [g1] at HC0
        go_wp2_with (go_at_call 46; go_must ((with_reducible refine (HC0.out _ extA).mono ?_); rintro e w1 ⟨rfl, hx1⟩; skip))
        go_roundw
        case rel => exact ⟨j + 1, by omega, by go_num, HD, ext_trans HX.out hx1⟩
        case measure => simp [intOf]; omega
    · have hk : j = l.length := by omega
      subst hk
      have ho' := ho.out
      rw [List.take_of_length_le (Nat.le_refl _)] at ho'
      have HO := Lib.hid ho'
      clear ho ho'
      go_wp2
      go_ret
      exact ⟨-1, by rw [HO.out]; rfl, rfl, HX.out⟩
set_option maxRecDepth 100000 in
set_option maxHeartbeats 4000000 in
theorem containsLa_any {F : Nat → Prop} {w : World} {v : Value} {l : List At} {site clock : Int} {g k r : Nat} (h : RSl RAt 3 F w v l) (hc : ∀ x ∈ l, checkM x.1 = 0) (hg : BoxIn g site w) (hk : BoxIn k clock w) (hr : BoxF r g k w) :
    Calls Tryz.prog 45 #[v, .func (.func 46) #[] #[.pointer (some ⟨r, 0, none⟩)]] w fun e w' => e = .returned (.bool (l.any fun x => laterB site clock x.1)) ∧ Ext w w' := by
  have H := Lib.hid (idxLa_any h hc hg hk hr)
  clear h hc hg hk hr
  go_enter Tryz.func45, Tryz.ntmps45
  go_wp2_with (go_at_call 88; refine H.out.mono ?_; rintro e w1 ⟨n, hn, rfl, hx1⟩; have HN := Lib.hid hn; clear hn)
  go_ret
  exact ⟨rb HN.out, hx1⟩
end Go.Proofs.YtfgfdohppgoajaaGreat
/- Is a mark in a list of marks, by the document. -/
namespace Go.Proofs.YtfgfdohppgoajaaGreat
open Go Go.RowKit Go.BigFrame Cp

set_option maxRecDepth 100000 in
set_option maxHeartbeats 4000000 in
theorem hasGone_any {F G : Nat → Prop} {w : World} {v : Value} {ds : List Value} {l : List Mk} {m : Mk} (hl : RSl RMk 2 F w v l) (hm : RMk G w ds m) :
    Calls Tryz.prog 83 #[v, .agg ds.toArray] w fun e w' => e = .returned (.bool (hasG l m)) ∧ Ext w w' := by
  obtain ⟨a0, n0, c0, rfl⟩ := hl.slice
  obtain ⟨rfl, hn1, hn2⟩ := hl.len
  unfold maxLen at hn2
  have q1 : l.length ≤ 9223372036854775807 := by omega
  clear hn1 hn2
  have HMX := Lib.hid (fun (W : World) (hx : Ext w W) => gMk.ext hm hx)
  obtain ⟨u, rfl, hm, _⟩ := hm
  obtain ⟨m, d⟩ := m
  simp only at hm HMX ⊢
  obtain ⟨a2, n2, c2, rfl⟩ := hm.slice
  have HL := Lib.hid hl
  clear hl hm
  obtain ⟨pr, hpr⟩ : ∃ pr : Mk → Bool, pr = fun a => decide (ordM a (m, d) = 0) := ⟨_, rfl⟩
  have hM : hasG l (m, d) = l.any pr := by rw [hpr]; rfl
  rw [hM]
  have HPR := Lib.hid (fun (a : Mk) => (show (ordM a (m, d) == 0) = pr a by rw [hpr]; rfl))
  clear hM hpr
  go_enter Tryz.func83, Tryz.ntmps83
  go_wp2
  go_loopw [5] (fun iv wr => ∃ k : Nat, k ≤ l.length ∧ iv = .int .i64 k ∧ Hid ((l.take k).any pr = false) ∧ Ext (w.alloc (.cells #[.slice a2 n2 c2, .int .i64 d] 47)) wr) (fun iv _ => l.length - (intOf iv).toNat)
  case atStart => exact ⟨0, Nat.zero_le _, rfl, Lib.hid (by simp), ext_refl _⟩
  case round =>
    obtain ⟨k, hk, rfl, HI, hx⟩ := hrel
    have hw : Ext w wr := ext_trans (ext_alloc (ext_refl _) _) hx
    have z1 : wr.cell? ⟨w.heap.size, 0, none⟩ = some (.slice a2 n2 c2) := (hx.cells _ _ (by simp <;> omega)).trans (by go_simp)
    have z2 : wr.cell? ⟨w.heap.size, 1, none⟩ = some (.int .i64 d) := (hx.cells _ _ (by simp <;> omega)).trans (by go_simp)
    have hsz := hx.size
    (try simp at hsz)
    have hbz : w.heap.size < wr.heap.size := by omega
    have HX := Lib.hid hx
    have HW := Lib.hid hw
    clear hx hw
    by_cases hlt : k < l.length
    · obtain ⟨b, o, p, c, ap, cp, rfl, hb, ek, ick, hpp, y0, y1⟩ := mark_at (HL.out.ext gMk HW.out) hlt
      have HCM := Lib.hid (fun (W : World) (hx : Ext wr W) => same_any (rmk_of' (hpp.ext gStp hx) ick) (HMX.out W (ext_trans HW.out hx)))
      rw [HPR.out (p, c)] at HCM
      have HA := Lib.hid (anyp_step (p := pr) ek)
      clear hpp ick ek
      cases g : pr (p, c) with
      | true =>
        rw [g] at HCM
        have HC := Lib.hid (anyp_of_take (p := pr) (l := l) (k := k + 1) (by rw [HA.out, HI.out, g]; rfl))
        go_wp2_with fail
        refine wp_name (fun W2 eW2 => ?_)
        have e0 : W2.cell? ⟨w.heap.size, 0, none⟩ = some (.slice a2 n2 c2) := by rw [eW2]; go_simp
        have e1 : W2.cell? ⟨w.heap.size, 1, none⟩ = some (.int .i64 d) := by rw [eW2]; go_simp
        have e2 : W2.cell? ⟨b, o + k * 2, none⟩ = some (.slice ap p.length cp) := by rw [eW2]; go_simp
        have e3 : W2.cell? ⟨b, o + k * 2 + 1, none⟩ = some (.int .i64 c) := by rw [eW2]; go_simp
        have zW2_0 : b < W2.heap.size := by rw [eW2]; first | assumption | omega | (simp <;> omega)
        have zW2_1 : w.heap.size < W2.heap.size := by rw [eW2]; first | assumption | omega | (simp <;> omega)
        have hw2 : Ext wr W2 := by rw [eW2]; exact extA
        clear eW2
        refine wp_region_later fol (by kernel_rfl) (fun hlater => ?_)
        repeat (go_big_quiet_step ((first
            | (go_at_call 52; (with_reducible exact later_of (HCM.out _ (ext_trans hw2 (Later.ext _))))))))
        refine wpQuiet_nil ?_
        rintro w3 ⟨⟨w3x, hx3⟩, rfl⟩
        clear hlater
        go_wp2_with fail
        go_ret
        exact ⟨rb HC.out.symm, ext_trans HW.out (ext_trans hw2 hx3)⟩
      | false =>
        rw [g] at HCM
        have HD := Lib.hid (show (l.take (k + 1)).any pr = false by rw [HA.out, HI.out, g]; rfl)
        go_wp2_with fail
        refine wp_name (fun W2 eW2 => ?_)
        have e0 : W2.cell? ⟨w.heap.size, 0, none⟩ = some (.slice a2 n2 c2) := by rw [eW2]; go_simp
        have e1 : W2.cell? ⟨w.heap.size, 1, none⟩ = some (.int .i64 d) := by rw [eW2]; go_simp
        have e2 : W2.cell? ⟨b, o + k * 2, none⟩ = some (.slice ap p.length cp) := by rw [eW2]; go_simp
        have e3 : W2.cell? ⟨b, o + k * 2 + 1, none⟩ = some (.int .i64 c) := by rw [eW2]; go_simp
        have zW2_0 : b < W2.heap.size := by rw [eW2]; first | assumption | omega | (simp <;> omega)
        have zW2_1 : w.heap.size < W2.heap.size := by rw [eW2]; first | assumption | omega | (simp <;> omega)
        have hw2 : Ext wr W2 := by rw [eW2]; exact extA
        clear eW2
        refine wp_region_later fol (by kernel_rfl) (fun hlater => ?_)
        repeat (go_big_quiet_step ((first
            | (go_at_call 52; (with_reducible exact later_of (HCM.out _ (ext_trans hw2 (Later.ext _))))))))
        refine wpQuiet_nil ?_
        rintro w3 ⟨⟨w3x, hx3⟩, rfl⟩
        clear hlater
        go_wp2_with fail
        go_roundw
        case rel => exact ⟨k + 1, by omega, by go_num, HD, ext_trans HX.out (ext_trans hw2 hx3)⟩
        case measure => simp [intOf]; omega
    · have hkl : k = l.length := by omega
      subst hkl
      have hi := HI.out
      rw [List.take_of_length_le (Nat.le_refl _)] at hi
      go_wp2
      go_ret
      exact ⟨rb hi.symm, HW.out⟩
end Go.Proofs.YtfgfdohppgoajaaGreat
/- The same marks, the same states. -/
namespace Go.Proofs.YtfgfdohppgoajaaGreat
open Go Go.RowKit Go.BigFrame Cp

set_option maxRecDepth 100000 in
set_option maxHeartbeats 4000000 in
theorem sameMarks_any {F G : Nat → Prop} {w : World} {v u : Value} {l : List Mk} (h : RSl RMk 2 F w v l) (k : RSl RMk 2 G w u l) :
    Calls Tryz.prog 66 #[v, u] w fun e w' => e = .returned (.bool true) ∧ Ext w w' := by
  have HL := Lib.hid (fun (W : World) (hx : Ext w W) => h.ext gMk hx)
  have HM := Lib.hid (fun (W : World) (hx : Ext w W) => k.ext gMk hx)
  obtain ⟨a, n, c, rfl⟩ := h.slice
  obtain ⟨a2, n2, c2, rfl⟩ := k.slice
  obtain ⟨rfl, hn1, hn2⟩ := h.len
  obtain ⟨rfl, _, _⟩ := k.len
  unfold maxLen at hn2
  have q1 : l.length ≤ 9223372036854775807 := by omega
  clear h k hn1 hn2
  go_enter Tryz.func66, Tryz.ntmps66
  go_wp2
  go_loopw [5] (fun i wr => ∃ q : Nat, q ≤ l.length ∧ i = .int .i64 q ∧ Ext w wr) (fun i _ => l.length - (intOf i).toNat)
  case atStart => exact ⟨0, Nat.zero_le _, rfl, ext_refl _⟩
  case round =>
    obtain ⟨q, hq, rfl, hx⟩ := hrel
    have HX := Lib.hid hx
    clear hx
    by_cases hlt : q < l.length
    · obtain ⟨b, o, p, d, ap, cp, rfl, hb, e1, i1, hp1, y0, y1⟩ := mark_at (HL.out wr HX.out) hlt
      obtain ⟨b2, o2, p2, d2, ap2, cp2, rfl, hb2, e2, i2, hp2, z0, z1⟩ := mark_at (HM.out wr HX.out) hlt
      obtain ⟨rfl, rfl⟩ : p = p2 ∧ d = d2 := by
        rw [e1] at e2
        injection e2 with e2
        injection e2 with e3 e4
        exact ⟨e3, e4⟩
      have HSM := Lib.hid (fun (W : World) (hx : Ext wr W) => same_same (rmk_of' (hp1.ext gStp hx) i1) (rmk_of' (hp2.ext gStp hx) i2))
      clear e1 e2 hp1 hp2 i1 i2
      go_wp2_with fail
      refine wp_name (fun W2 eW2 => ?_)
      have e0 : W2.cell? ⟨b, o + q * 2, none⟩ = some (.slice ap p.length cp) := by rw [eW2]; go_simp
      have e1 : W2.cell? ⟨b, o + q * 2 + 1, none⟩ = some (.int .i64 d) := by rw [eW2]; go_simp
      have e3 : W2.cell? ⟨b2, o2 + q * 2, none⟩ = some (.slice ap2 p.length cp2) := by rw [eW2]; go_simp
      have e4 : W2.cell? ⟨b2, o2 + q * 2 + 1, none⟩ = some (.int .i64 d) := by rw [eW2]; go_simp
      have zW2_0 : b < W2.heap.size := by rw [eW2]; first | assumption | omega | (simp <;> omega)
      have zW2_1 : b2 < W2.heap.size := by rw [eW2]; first | assumption | omega | (simp <;> omega)
      have hw2 : Ext wr W2 := by rw [eW2]; exact extA
      clear eW2
      refine wp_region_later fol (by kernel_rfl) (fun hlater => ?_)
      repeat (go_big_quiet_step ((first
          | (go_at_call 52; (with_reducible exact later_of (HSM.out _ (ext_trans hw2 (Later.ext _))))))))
      refine wpQuiet_nil ?_
      rintro w3 ⟨⟨w3x, hx3⟩, rfl⟩
      clear hlater
      go_wp2_with fail
      go_roundw
      case rel => exact ⟨q + 1, by omega, by go_num, ext_trans HX.out (ext_trans hw2 hx3)⟩
      case measure => simp [intOf]; omega
    · go_wp2
      go_ret
      exact ⟨rfl, HX.out⟩
set_option maxRecDepth 100000 in
set_option maxHeartbeats 4000000 in
theorem sameState_any {F G : Nat → Prop} {w : World} {cs ds : List Value} {s : St} (h : RSt F w cs s) (k : RSt G w ds s) :
    Calls Tryz.prog 20 #[.agg cs.toArray, .agg ds.toArray] w fun e w' => e = .returned (.bool true) ∧ Ext w w' := by
  obtain ⟨v, u, rfl, h1, h2⟩ := h
  obtain ⟨v', u', rfl, k1, k2⟩ := k
  have HA := Lib.hid (fun (W : World) (hx : Ext w W) => sameAtoms_any (h1.ext gAt hx) (k1.ext gAt hx))
  have HG := Lib.hid (fun (W : World) (hx : Ext w W) => sameMarks_any (h2.ext gMk hx) (k2.ext gMk hx))
  obtain ⟨a0, n0, c0, rfl⟩ := h1.slice
  obtain ⟨a1, n1, c1, rfl⟩ := h2.slice
  obtain ⟨a2, n2, c2, rfl⟩ := k1.slice
  obtain ⟨a3, n3, c3, rfl⟩ := k2.slice
  clear h1 h2 k1 k2
  go_enter Tryz.func20, Tryz.ntmps20
  go_wp2_with (first | (go_at_call 10; go_must ((with_reducible refine (HA.out _ extA).mono ?_); rintro e w1 ⟨rfl, hx1⟩; have hs1 := hx1.size; (try simp at hs1); have q0 := (hx1.cells (w.heap.size) 1 (by first | omega | (simp <;> omega))).trans (show _ = some (.slice a1 n1 c1) by first | assumption | go_simp); have q1 := (hx1.cells (w.heap.size + 1) 1 (by first | omega | (simp <;> omega))).trans (show _ = some (.slice a3 n3 c3) by first | assumption | go_simp); have HX1 := Lib.hid (ext_trans extA hx1 : Ext w w1); clear hx1)) | (go_at_call 66; go_must ((with_reducible refine (HG.out _ (ext_trans HX1.out extA)).mono ?_); rintro e w2 ⟨rfl, hx2⟩)))
  go_ret
  exact ⟨rfl, ext_trans HX1.out hx2⟩
set_option maxRecDepth 100000 in
set_option maxHeartbeats 4000000 in
theorem stateIs_any {F G : Nat → Prop} {w : World} {cs ds : List Value} {s : St} {er : Int} (h : RSt F w cs s) (k : RSt G w ds s) (he : er ≠ 0 → s = ([], [])) :
    Calls Tryz.prog 19 #[.agg cs.toArray, .int .i64 er, .int .i64 er, .agg ds.toArray] w fun e w' => e = .returned (.bool true) ∧ Ext w w' := by
  by_cases h0 : er = 0
  · have HS := Lib.hid (fun (W : World) (hx : Ext w W) => sameState_any (gSt.ext h hx) (gSt.ext k hx))
    obtain ⟨v, u, rfl, h1, h2⟩ := h
    obtain ⟨v', u', rfl, k1, k2⟩ := k
    obtain ⟨a0, n0, c0, rfl⟩ := h1.slice
    obtain ⟨a1, n1, c1, rfl⟩ := h2.slice
    obtain ⟨a2, n2, c2, rfl⟩ := k1.slice
    obtain ⟨a3, n3, c3, rfl⟩ := k2.slice
    subst h0
    clear h1 h2 k1 k2 he
    go_enter Tryz.func19, Tryz.ntmps19
    go_wp2_with (first | (go_at_call 20; go_must ((with_reducible refine (HS.out _ extA).mono ?_); rintro e w1 ⟨rfl, hx1⟩)))
    go_ret
    exact ⟨rfl, ext_trans extA hx1⟩
  · obtain rfl := he h0
    have HS := Lib.hid (fun (W : World) (hx : Ext w W) => sameState_any (gSt.ext h hx) (show RSt (fun _ => True) W [.slice none 0 0, .slice none 0 0] ([], []) from ⟨_, _, rfl, RSl.nil_ (Nat.zero_le _), RSl.nil_ (Nat.zero_le _)⟩))
    obtain ⟨v, u, rfl, h1, h2⟩ := h
    obtain ⟨v', u', rfl, k1, k2⟩ := k
    obtain ⟨a0, n0, c0, rfl⟩ := h1.slice
    obtain ⟨a1, n1, c1, rfl⟩ := h2.slice
    obtain ⟨a2, n2, c2, rfl⟩ := k1.slice
    obtain ⟨a3, n3, c3, rfl⟩ := k2.slice
    have g1 : (er != 0) = true := by simpa using h0
    have g2 : (er == er) = true := by simp
    clear h1 h2 k1 k2 he
    go_enter Tryz.func19, Tryz.ntmps19
    go_wp2_with (first | (go_at_call 20; go_must ((with_reducible refine (HS.out _ extA).mono ?_); rintro e w1 ⟨rfl, hx1⟩)))
    go_ret
    exact ⟨rfl, ext_trans extA hx1⟩
end Go.Proofs.YtfgfdohppgoajaaGreat
/- A part of a slice. -/
namespace Go.Proofs.YtfgfdohppgoajaaGreat
open Go Go.RowKit Cp

section
variable {α : Type} {R : Rd α} {sz : Nat} {F : Nat → Prop} {w : World} {l : List α}
theorem rsl_drop {b o n c : Nat} (h : RSl R sz F w (.slice (some ⟨b, o, none⟩) n c) l) {i : Nat} (hi : i ≤ n) : RSl R sz F w (.slice (some ⟨b, o + i * sz, none⟩) (n - i) (c - i)) (l.drop i) := by
  obtain ⟨a, cap, e, h1, h2, h3⟩ := h
  injection e with e1 e2 e3
  subst e1; subst e2; subst e3
  refine ⟨_, _, by rw [List.length_drop], by rw [List.length_drop]; omega, by omega, fun hne => ?_⟩
  obtain ⟨b', o', e', hF, hl, hx⟩ := h3 (fun e => hne (by rw [e]; simp))
  injection e' with e'
  injection e' with e1 e2
  subst e1; subst e2
  refine ⟨_, _, rfl, hF, hl, fun j x hj => ?_⟩
  rw [List.getElem?_drop] at hj
  obtain ⟨cs, c1, c2, c3⟩ := hx (i + j) x hj
  exact ⟨cs, c1, by rw [Nat.add_mul, ← Nat.add_assoc] at c2; exact c2, c3⟩
theorem rsl_take {a : Option Addr} {n c : Nat} (h : RSl R sz F w (.slice a n c) l) {i : Nat} (hi : i ≤ n) : RSl R sz F w (.slice a i c) (l.take i) := by
  obtain ⟨a', cap, e, h1, h2, h3⟩ := h
  injection e with e1 e2 e3
  subst e1; subst e2; subst e3
  refine ⟨_, _, by rw [List.length_take, Nat.min_eq_left hi], by rw [List.length_take]; omega, h2, fun hne => ?_⟩
  obtain ⟨b', o', e', hF, hl, hx⟩ := h3 (fun e => hne (by rw [e]; simp))
  refine ⟨b', o', e', hF, hl, fun j x hj => ?_⟩
  rw [List.getElem?_take] at hj
  split at hj
  · exact hx j x hj
  · cases hj
end
end Go.Proofs.YtfgfdohppgoajaaGreat
