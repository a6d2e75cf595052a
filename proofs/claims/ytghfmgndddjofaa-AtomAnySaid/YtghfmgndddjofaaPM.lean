/- Plain facts on atoms that are put: one more atom among atoms in order; many. -/
import Derived.Test.YtghfmgndddjofaaA3
import Derived.Test.YtghfmgndddjofaaA4
set_option linter.unusedVariables false
set_option linter.unusedSimpArgs false
namespace Go.Proofs.Ytghfmgndddjofaa
open Go Go.RowKit Cp

def mnS (x y : UInt8) : UInt8 := if y < x then y else x
def putA : List At → At → List At
  | [], a => [a]
  | x :: r, a => if ordM x.1 a.1 = 0 then (x.1, mnS x.2 a.2) :: r else if ordM x.1 a.1 = 1 then a :: x :: r else x :: putA r a
theorem putA_cons (x : At) (r : List At) (a : At) : putA (x :: r) a = if ordM x.1 a.1 = 0 then (x.1, mnS x.2 a.2) :: r else if ordM x.1 a.1 = 1 then a :: x :: r else x :: putA r a := rfl
def mergeA (l m : List At) : List At := m.foldl putA l
def takeA (l : List At) (ms : List Mk) : List At := l.filter fun a => !hasG ms a.1
/-- atoms that are right, but may be many -/
def RightA (l : List At) : Prop := SortedA l ∧ ∀ a ∈ l, checkM a.1 = 0 ∧ signB a.2 = true
theorem right_of {l : List At} (h : checkA l = 0) : RightA l := ⟨(checkA_ok h).2.1, (checkA_ok h).2.2⟩
theorem right_to {l : List At} (h : RightA l) : checkA l = if 300 < l.length then 2 else 0 := by
  unfold checkA
  by_cases h1 : 300 < l.length
  · rw [if_pos h1, if_pos h1]
  · rw [if_neg h1, if_neg h1]
    exact checkAF_ok.2 ⟨h.2, h.1, by simp⟩
theorem sortedA_tail {x : At} {r : List At} (h : SortedA (x :: r)) : SortedA r := by
  cases r with
  | nil => trivial
  | cons b r => exact h.2
theorem sortedA_head {x : At} {r : List At} (h : SortedA (x :: r)) : ∀ b ∈ r, ordM x.1 b.1 = -1 := by
  intro b hb
  obtain ⟨j, hj⟩ := List.getElem?_of_mem hb
  exact sortedA_lt h (j + 1) x b 0 (by omega) rfl (by simpa using hj)
theorem sortedA_mk {x : At} {r : List At} (h : SortedA r) (k : ∀ b ∈ r, ordM x.1 b.1 = -1) : SortedA (x :: r) := by
  cases r with
  | nil => trivial
  | cons b r => exact ⟨k b (by simp), h⟩
theorem ordM_swap {a b : Mk} (h : ordM a b = 1) : ordM b a = -1 := by have := ordM_anti a b; omega
theorem ordM_swap' {a b : Mk} (h : ordM a b = -1) : ordM b a = 1 := by have := ordM_anti a b; omega
theorem ordM_up {a b c : Mk} (h : ordM a b = -1) (k : 0 ≤ ordM a c) : ordM b c = 1 := by
  rcases ordM_range b c with h1 | h1 | h1
  · have := ordM_trans h h1; omega
  · rw [ordM_zero] at h1; subst h1; omega
  · exact h1
theorem placeA_cons (x : At) (r : List At) (m : Mk) : placeA (x :: r) m = placeA r m + if ordM x.1 m < 0 then 1 else 0 := by
  unfold placeA
  rw [List.countP_cons]
  simp
theorem hasM_cons (x : At) (r : List At) (m : Mk) : hasM (x :: r) m = (decide (ordM x.1 m = 0) || hasM r m) := by simp [hasM]
theorem place_none {r : List At} {m : Mk} (h : ∀ b ∈ r, ordM b.1 m = 1) : placeA r m = 0 ∧ hasM r m = false := by
  constructor
  · unfold placeA
    rw [List.countP_eq_zero]
    intro b hb
    have := h b hb
    simp; omega
  · unfold hasM
    rw [List.any_eq_false]
    intro b hb
    have := h b hb
    simp; omega
theorem putA_has : ∀ {l : List At} {a : At}, SortedA l → hasM l a.1 = true → ∃ x, l[placeA l a.1]? = some x ∧ x.1 = a.1 ∧ putA l a = l.set (placeA l a.1) (x.1, mnS x.2 a.2)
  | [], a, _, h => by simp [hasM] at h
  | x :: r, a, hs, h => by
    have hr := sortedA_head hs
    rw [placeA_cons]
    rcases ordM_range x.1 a.1 with h1 | h1 | h1
    · rw [hasM_cons, decide_eq_false (by omega), Bool.false_or] at h
      obtain ⟨y, e1, e2, e3⟩ := putA_has (sortedA_tail hs) h
      refine ⟨y, ?_, e2, ?_⟩
      · rw [if_pos (by omega)]; simpa using e1
      · unfold putA
        rw [if_neg (by omega), if_neg (by omega), if_pos (by omega), e3]; rfl
    · obtain ⟨e1, _⟩ := place_none (r := r) (m := a.1) (fun b hb => ordM_up (hr b hb) (by omega))
      rw [e1, if_neg (by omega)]
      refine ⟨x, rfl, ordM_zero.1 h1, ?_⟩
      unfold putA
      rw [if_pos h1]; rfl
    · exfalso
      rw [hasM_cons, decide_eq_false (by omega), Bool.false_or, (place_none (r := r) (m := a.1) (fun b hb => ordM_up (hr b hb) (by omega))).2] at h
      simp at h
theorem putA_new : ∀ {l : List At} {a : At}, SortedA l → hasM l a.1 = false → putA l a = l.take (placeA l a.1) ++ a :: l.drop (placeA l a.1)
  | [], a, _, _ => by simp [putA]
  | x :: r, a, hs, h => by
    have hr := sortedA_head hs
    rw [hasM_cons, Bool.or_eq_false_iff] at h
    have h0 : ordM x.1 a.1 ≠ 0 := by simpa using h.1
    rw [placeA_cons]
    unfold putA
    rw [if_neg h0]
    by_cases h1 : ordM x.1 a.1 = 1
    · rw [if_pos h1, (place_none (r := r) (m := a.1) (fun b hb => ordM_up (hr b hb) (by omega))).1, if_neg (by omega)]; rfl
    · have h2 : ordM x.1 a.1 = -1 := by rcases ordM_range x.1 a.1 with h3 | h3 | h3 <;> omega
      rw [if_neg h1, if_pos (by omega), putA_new (sortedA_tail hs) h.2]; rfl
theorem putA_mem : ∀ {l : List At} {a b : At}, b ∈ putA l a → (b.1 = a.1 ∨ ∃ x ∈ l, x.1 = b.1) ∧ (b.2 = a.2 ∨ ∃ x ∈ l, x.2 = b.2)
  | [], a, b, h => by
    have : b = a := by simpa [putA] using h
    subst this; exact ⟨.inl rfl, .inl rfl⟩
  | x :: r, a, b, h => by
    unfold putA at h
    by_cases h1 : ordM x.1 a.1 = 0
    · rw [if_pos h1] at h
      rcases List.mem_cons.1 h with rfl | h
      · refine ⟨.inr ⟨x, by simp, rfl⟩, ?_⟩
        show mnS x.2 a.2 = a.2 ∨ ∃ y ∈ x :: r, y.2 = mnS x.2 a.2
        unfold mnS
        split
        · exact .inl rfl
        · exact .inr ⟨x, by simp, rfl⟩
      · exact ⟨.inr ⟨b, by simp [h], rfl⟩, .inr ⟨b, by simp [h], rfl⟩⟩
    · rw [if_neg h1] at h
      by_cases h2 : ordM x.1 a.1 = 1
      · rw [if_pos h2] at h
        rcases List.mem_cons.1 h with rfl | h
        · exact ⟨.inl rfl, .inl rfl⟩
        · exact ⟨.inr ⟨b, h, rfl⟩, .inr ⟨b, h, rfl⟩⟩
      · rw [if_neg h2] at h
        rcases List.mem_cons.1 h with rfl | h
        · exact ⟨.inr ⟨b, by simp, rfl⟩, .inr ⟨b, by simp, rfl⟩⟩
        · obtain ⟨g1, g2⟩ := putA_mem h
          exact ⟨g1.imp id fun ⟨y, hy, e⟩ => ⟨y, by simp [hy], e⟩, g2.imp id fun ⟨y, hy, e⟩ => ⟨y, by simp [hy], e⟩⟩
theorem putA_sorted : ∀ {l : List At} {a : At}, SortedA l → SortedA (putA l a)
  | [], a, _ => trivial
  | x :: r, a, hs => by
    have hr := sortedA_head hs
    have ht := sortedA_tail hs
    unfold putA
    by_cases h1 : ordM x.1 a.1 = 0
    · rw [if_pos h1]; exact sortedA_mk ht hr
    · rw [if_neg h1]
      by_cases h2 : ordM x.1 a.1 = 1
      · rw [if_pos h2]
        refine sortedA_mk hs (fun b hb => ?_)
        rcases List.mem_cons.1 hb with rfl | hb
        · exact ordM_swap h2
        · exact ordM_trans (ordM_swap h2) (hr b hb)
      · rw [if_neg h2]
        refine sortedA_mk (putA_sorted ht) (fun b hb => ?_)
        have h3 : ordM x.1 a.1 = -1 := by rcases ordM_range x.1 a.1 with h3 | h3 | h3 <;> omega
        rcases (putA_mem hb).1 with e | ⟨y, hy, e⟩
        · rw [e]; exact h3
        · rw [← e]; exact hr y hy
theorem putA_right {l : List At} {a : At} (h : RightA l) (h1 : checkM a.1 = 0) (h2 : signB a.2 = true) : RightA (putA l a) := by
  refine ⟨putA_sorted h.1, fun b hb => ?_⟩
  obtain ⟨g1, g2⟩ := putA_mem hb
  constructor
  · rcases g1 with e | ⟨x, hx, e⟩
    · rw [e]; exact h1
    · rw [← e]; exact (h.2 x hx).1
  · rcases g2 with e | ⟨x, hx, e⟩
    · rw [e]; exact h2
    · rw [← e]; exact (h.2 x hx).2
theorem putA_len : ∀ (l : List At) (a : At), (putA l a).length ≤ l.length + 1
  | [], a => by simp [putA]
  | x :: r, a => by
    unfold putA
    split
    · simp
    · split
      · simp
      · have := putA_len r a
        simp; omega
theorem mergeA_right : ∀ {m l : List At}, RightA l → (∀ a ∈ m, checkM a.1 = 0 ∧ signB a.2 = true) → RightA (mergeA l m)
  | [], l, h, _ => h
  | a :: m, l, h, hm => mergeA_right (m := m) (l := putA l a) (putA_right h (hm a (by simp)).1 (hm a (by simp)).2) (fun b hb => hm b (by simp [hb]))
theorem mergeA_len : ∀ (m l : List At), (mergeA l m).length ≤ l.length + m.length
  | [], l => by simp [mergeA]
  | a :: m, l => by
    have h1 := mergeA_len m (putA l a)
    have h2 := putA_len l a
    have e : mergeA l (a :: m) = mergeA (putA l a) m := rfl
    rw [e, List.length_cons]; omega
theorem mergeA_take {l m : List At} {k : Nat} {a : At} (h : m[k]? = some a) : mergeA l (m.take (k + 1)) = putA (mergeA l (m.take k)) a := by
  obtain ⟨h1, h2⟩ := List.getElem?_eq_some_iff.1 h
  unfold mergeA
  rw [List.take_succ_eq_append_getElem h1, h2, List.foldl_append]; rfl
/-- the document's loop: behind k atoms it holds out, and knows whether a has been put -/
def DocPut (l : List At) (a : At) (k : Nat) (out : List At) (put : Bool) : Prop :=
  out ++ (if put = true then l.drop k else putA (l.drop k) a) = putA l a ∧ (put = true → ∀ x ∈ l.drop k, ordM x.1 a.1 = 1) ∧ out.length ≤ k + 1 ∧ (put = false → out.length ≤ k)
theorem docPut_start (l : List At) (a : At) : DocPut l a 0 [] false := ⟨by simp, by simp, by simp, by simp⟩
theorem docPut_new {l : List At} {a x : At} {k : Nat} {out : List At} (hs : SortedA (l.drop k)) (h : DocPut l a k out false) (hx : l[k]? = some x) (h1 : ordM x.1 a.1 = 1) : DocPut l a (k + 1) (out ++ [a] ++ [x]) true := by
  obtain ⟨e, _, hl, hl2⟩ := h
  have hd := drop_at hx
  rw [hd] at hs e
  have hh := sortedA_head hs
  refine ⟨?_, fun _ y hy => ordM_up (hh y hy) (by omega), ?_, by simp⟩
  · simp only [if_true]
    rw [if_neg (by simp)] at e
    rw [putA_cons] at e
    rw [if_neg (by omega), if_pos h1] at e
    rw [← e]; simp
  · have := hl2 rfl
    simp; omega
theorem docPut_same {l : List At} {a x : At} {k : Nat} {out : List At} (hs : SortedA (l.drop k)) (h : DocPut l a k out false) (hx : l[k]? = some x) (h1 : ordM x.1 a.1 = 0) : DocPut l a (k + 1) (out ++ [(x.1, mnS x.2 a.2)]) true := by
  obtain ⟨e, _, hl, hl2⟩ := h
  have hd := drop_at hx
  rw [hd] at hs e
  have hh := sortedA_head hs
  refine ⟨?_, fun _ y hy => ordM_up (hh y hy) (by omega), ?_, by simp⟩
  · simp only [if_true]
    rw [if_neg (by simp)] at e
    rw [putA_cons] at e
    rw [if_pos h1] at e
    rw [← e]; simp
  · have := hl2 rfl
    simp; omega
theorem docPut_less {l : List At} {a x : At} {k : Nat} {out : List At} (h : DocPut l a k out false) (hx : l[k]? = some x) (h1 : ordM x.1 a.1 = -1) : DocPut l a (k + 1) (out ++ [x]) false := by
  obtain ⟨e, _, hl, hl2⟩ := h
  have hd := drop_at hx
  rw [hd] at e
  refine ⟨?_, by simp, ?_, ?_⟩
  · rw [if_neg (by simp)] at e ⊢
    rw [putA_cons] at e
    rw [if_neg (by omega), if_neg (by omega)] at e
    rw [← e]; simp
  · have := hl2 rfl
    simp; omega
  · intro _; have := hl2 rfl
    simp; omega
theorem docPut_put {l : List At} {a x : At} {k : Nat} {out : List At} (h : DocPut l a k out true) (hx : l[k]? = some x) : ordM x.1 a.1 = 1 ∧ DocPut l a (k + 1) (out ++ [x]) true := by
  obtain ⟨e, hp, hl, _⟩ := h
  have hd := drop_at hx
  rw [hd] at e hp
  refine ⟨hp rfl x (by simp), ?_, fun _ y hy => hp rfl y (by simp [hy]), by simp; omega, by simp⟩
  simp only [if_true] at e ⊢
  rw [← e]; simp
theorem docPut_end {l : List At} {a : At} {out : List At} {put : Bool} (h : DocPut l a l.length out put) : (if put = true then out else out ++ [a]) = putA l a := by
  obtain ⟨e, _⟩ := h
  rw [List.drop_length] at e
  cases put
  · simpa [putA] using e
  · simpa using e
theorem takeA_step {l : List At} {ms : List Mk} {k : Nat} {a : At} (h : l[k]? = some a) : takeA (l.take (k + 1)) ms = takeA (l.take k) ms ++ if hasG ms a.1 = true then [] else [a] := by
  obtain ⟨h1, h2⟩ := List.getElem?_eq_some_iff.1 h
  unfold takeA
  rw [List.take_succ_eq_append_getElem h1, h2, List.filter_append]
  cases h3 : hasG ms a.1 <;> simp [h3]
end Go.Proofs.Ytghfmgndddjofaa
