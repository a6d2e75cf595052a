/- Plain facts on runs: atoms of runs are the atoms that they were; a run cut in two. No program in sight. -/
import Derived.Test.YthkhkbjkbpgaoaaPAtom
set_option linter.unusedVariables false
set_option linter.unusedSimpArgs false
namespace Cp

theorem atomsR_len (r : Rn) : (atomsR r).length = r.2.length := by simp [atomsR]
theorem atomsR_cons (m : Mk) (s : UInt8) (u : Tx) : atomsR (m, s :: u) = (m, s) :: atomsR (afterM m 1, u) := by
  unfold atomsR
  simp only [List.length_cons, List.range_succ_eq_map, List.map_cons, List.map_map]
  congr 1
  · simp [afterM_zero]
  · refine List.map_congr_left (fun i _ => ?_)
    simp [afterM_add, Int.add_comm]
theorem atomsR_app : ∀ (t : Tx) (m : Mk) (u : Tx), atomsR (m, t ++ u) = atomsR (m, t) ++ atomsR (afterM m t.length, u)
  | [], m, u => by simp [afterM_zero]; rfl
  | s :: t, m, u => by
    rw [List.cons_append, atomsR_cons, atomsR_cons, atomsR_app t (afterM m 1) u, afterM_add, List.cons_append]
    simp [Int.add_comm]
theorem atomsR_one (m : Mk) (s : UInt8) : atomsR (m, [s]) = [(m, s)] := by rw [atomsR_cons]; rfl
theorem atomsR_snoc (m : Mk) (t : Tx) (s : UInt8) : atomsR (m, t ++ [s]) = atomsR (m, t) ++ [(afterM m t.length, s)] := by rw [atomsR_app, atomsR_one]
theorem checkR_ok {r : Rn} : checkR r = 0 ↔ checkM r.1 = 0 ∧ r.2 ≠ [] ∧ r.2.length ≤ 60 ∧ signsB r.2 = true ∧ checkM (afterM r.1 ((r.2.length : Int) - 1)) = 0 := by
  unfold checkR
  constructor
  · intro h
    by_cases h1 : checkM r.1 ≠ 0
    · rw [if_pos h1] at h; exact absurd h h1
    rw [if_neg h1] at h
    by_cases h2 : r.2 = []
    · rw [if_pos h2] at h; omega
    rw [if_neg h2] at h
    by_cases h3 : 60 < r.2.length
    · rw [if_pos h3] at h; omega
    rw [if_neg h3] at h
    by_cases h4 : signsB r.2 = false
    · rw [if_pos h4] at h; omega
    rw [if_neg h4] at h
    exact ⟨by omega, h2, by omega, by simpa using h4, (nextM_ok.1 h).2.2.2⟩
  · rintro ⟨h1, h2, h3, h4, h5⟩
    have hp := List.length_pos_iff.2 h2
    rw [if_neg (by omega), if_neg h2, if_neg (by omega), if_neg (by simp [h4])]
    exact nextM_ok.2 ⟨h1, by omega, by omega, h5⟩

/-- a mark goes on a run -/
def JoinR (r : Rn) (m : Mk) : Prop := r.2.length < 60 ∧ ordM (afterM r.1 r.2.length) m = 0
/-- no two runs side by side could be one -/
def Apart (q : List Rn) : Prop := ∀ (i : Nat) (r r' : Rn), q[i]? = some r → q[i + 1]? = some r' → ¬ JoinR r r'.1
theorem snoc_get {α : Type} {ys : List α} {y z : α} {i : Nat} (h : (ys ++ [y])[i]? = some z) : i < ys.length ∧ ys[i]? = some z ∨ i = ys.length ∧ z = y := by
  by_cases h1 : i < ys.length
  · rw [List.getElem?_append_left h1] at h; exact .inl ⟨h1, h⟩
  · rw [List.getElem?_append_right (by omega)] at h
    have h2 : i - ys.length = 0 := by
      obtain ⟨h3, _⟩ := List.getElem?_eq_some_iff.1 h
      have h4 : i - ys.length < 1 := h3
      omega
    rw [h2] at h
    exact .inr ⟨by omega, by simpa using h.symm⟩
theorem apart_set {ys : List Rn} {y y' : Rn} (h : Apart (ys ++ [y])) (e : y'.1 = y.1) : Apart (ys ++ [y']) := by
  intro i r r' h1 h2
  rcases snoc_get h1 with ⟨g1, g2⟩ | ⟨rfl, rfl⟩
  · have k1 : (ys ++ [y])[i]? = some r := by rw [List.getElem?_append_left g1]; exact g2
    rcases snoc_get h2 with ⟨g3, g4⟩ | ⟨g3, rfl⟩
    · exact h i r r' k1 (by rw [List.getElem?_append_left g3]; exact g4)
    · rw [e]; exact h i r y k1 (by rw [g3]; simp)
  · rcases snoc_get h2 with ⟨g3, _⟩ | ⟨g3, _⟩ <;> omega
theorem apart_add {ys : List Rn} {y z : Rn} (h : Apart (ys ++ [y])) (e : ¬ JoinR y z.1) : Apart (ys ++ [y] ++ [z]) := by
  intro i r r' h1 h2
  rcases snoc_get h2 with ⟨g1, g2⟩ | ⟨g1, rfl⟩
  · rcases snoc_get h1 with ⟨_, g4⟩ | ⟨g3, _⟩
    · exact h i r r' g4 g2
    · omega
  · have hi : i = ys.length := by simpa using g1
    subst hi
    have : y = r := by simpa using h1
    subst this; exact e
theorem apart_one (y : Rn) : Apart [y] := by
  intro i r r' _ h2
  simp at h2
def Inv (q : List Rn) (l : List At) : Prop := q.flatMap atomsR = l ∧ (∀ r ∈ q, checkR r = 0) ∧ Apart q
theorem checkR_one {a : At} (h1 : checkM a.1 = 0) (h2 : signB a.2 = true) : checkR (a.1, [a.2]) = 0 :=
  checkR_ok.2 ⟨h1, by simp, by simp, by simp [signsB, h2], by simp [afterM_zero, h1]⟩
theorem inv_step {q : List Rn} {l : List At} {a : At} (h : Inv q l) (h1 : checkM a.1 = 0) (h2 : signB a.2 = true) : Inv (runStep q a) (l ++ [a]) := by
  obtain ⟨e, hc, ha⟩ := h
  by_cases hq : q = []
  · subst hq
    have : l = [] := by simpa using e.symm
    subst this
    refine ⟨?_, ?_, apart_one _⟩
    · show [(a.1, [a.2])].flatMap atomsR = [a]
      simp [atomsR_one]
    · intro r hr
      have : r = (a.1, [a.2]) := by simpa [runStep] using hr
      subst this; exact checkR_one h1 h2
  · obtain ⟨ys, y, rfl⟩ := snoc_of hq
    have hl : (ys ++ [y]).getLast? = some y := by simp
    have hy := hc y (by simp)
    obtain ⟨c1, c2, c3, c4, c5⟩ := checkR_ok.1 hy
    unfold runStep
    rw [hl]
    simp only
    by_cases hj : y.2.length < 60 ∧ ordM (afterM y.1 y.2.length) a.1 = 0
    · rw [if_pos hj]
      have hm := ordM_zero.1 hj.2
      rw [List.dropLast_concat]
      refine ⟨?_, ?_, apart_set ha rfl⟩
      · rw [← e, List.flatMap_append, List.flatMap_append, List.append_assoc]
        congr 1
        obtain ⟨m, t⟩ := y
        simp only [List.flatMap_cons, List.flatMap_nil, List.append_nil]
        rw [atomsR_snoc]
        simp only at hm
        rw [hm]
      · intro r hr
        rcases List.mem_append.1 hr with hr | hr
        · exact hc r (by simp [hr])
        · have : r = (y.1, y.2 ++ [a.2]) := by simpa using hr
          subst this
          refine checkR_ok.2 ⟨c1, by simp, by simp; omega, by rw [signsB_app, c4]; simp [signsB, h2], ?_⟩
          have : ((y.2 ++ [a.2]).length : Int) - 1 = y.2.length := by simp
          simp only [this, hm]; exact h1
    · rw [if_neg hj]
      refine ⟨?_, ?_, apart_add ha hj⟩
      · rw [List.flatMap_append, e]; simp [atomsR_one]
      · intro r hr
        rcases List.mem_append.1 hr with hr | hr
        · exact hc r hr
        · have : r = (a.1, [a.2]) := by simpa using hr
          subst this; exact checkR_one h1 h2
theorem inv_fold : ∀ (l : List At) (q : List Rn) (p : List At), Inv q p → (∀ a ∈ l, checkM a.1 = 0 ∧ signB a.2 = true) → Inv (l.foldl runStep q) (p ++ l)
  | [], q, p, h, _ => by simpa using h
  | a :: l, q, p, h, hl => by
    have h1 := hl a (by simp)
    have := inv_fold l (runStep q a) (p ++ [a]) (inv_step h h1.1 h1.2) (fun x hx => hl x (by simp [hx]))
    simpa using this
theorem checkA_right {l : List At} (h : checkA l = 0) : ∀ a ∈ l, checkM a.1 = 0 ∧ signB a.2 = true := by
  unfold checkA at h
  by_cases h1 : 300 < l.length
  · rw [if_pos h1] at h; omega
  · rw [if_neg h1] at h; exact (checkAF_ok.1 h).1
/-- atoms of runs are the atoms that they were -/
theorem runs_back {l : List At} (h : checkA l = 0) : Inv (runsA l) l := by
  have := inv_fold l [] [] ⟨rfl, by simp, by intro i r r' h1; simp at h1⟩ (checkA_right h)
  rw [List.nil_append] at this; exact this
theorem sortedA_idx : ∀ {l : List At}, (∀ (i : Nat) (a b : At), l[i]? = some a → l[i + 1]? = some b → ordM a.1 b.1 = -1) → SortedA l
  | [], _ => trivial
  | [_], _ => trivial
  | a :: b :: r, h => ⟨h 0 a b rfl rfl, sortedA_idx (fun i x y h1 h2 => h (i + 1) x y (by simpa using h1) (by simpa using h2))⟩
theorem atomsR_get {r : Rn} {i : Nat} {a : At} (h : (atomsR r)[i]? = some a) : ∃ h : i < r.2.length, a = (afterM r.1 i, r.2[i]) := by
  have hi : i < r.2.length := by
    obtain ⟨h1, _⟩ := List.getElem?_eq_some_iff.1 h
    rwa [atomsR_len] at h1
  refine ⟨hi, ?_⟩
  unfold atomsR at h
  rw [List.getElem?_map, List.getElem?_range hi] at h
  simpa [hi] using h.symm
/-- the atoms of a run are right -/
theorem atoms_right {r : Rn} (h : checkR r = 0) : checkA (atomsR r) = 0 := by
  obtain ⟨c1, c2, c3, c4, c5⟩ := checkR_ok.1 h
  have hm : r.1.1 ≠ [] := (checkM_ok.1 c1).2.1
  unfold checkA
  rw [if_neg (by rw [atomsR_len]; omega)]
  refine checkAF_ok.2 ⟨?_, sortedA_idx ?_, by simp⟩
  · intro a ha
    obtain ⟨i, hi⟩ := List.getElem?_of_mem ha
    obtain ⟨h1, rfl⟩ := atomsR_get hi
    refine ⟨check_between c1 c5 (by omega) (by omega), ?_⟩
    exact List.all_eq_true.1 c4 _ (List.getElem_mem h1)
  · intro i a b h1 h2
    obtain ⟨_, rfl⟩ := atomsR_get h1
    obtain ⟨_, rfl⟩ := atomsR_get h2
    exact afterM_lt hm (by omega)
theorem runsA_snoc (l : List At) (a : At) : runsA (l ++ [a]) = runStep (runsA l) a := by simp [runsA]
theorem runs_oneL : ∀ (n : Nat) (m : Mk) (t : Tx), t.length = n + 1 → n < 60 → runsA (atomsR (m, t)) = [(m, t)]
  | 0, m, t, h, _ => by
    obtain ⟨s, rfl⟩ := List.length_eq_one_iff.1 h
    rw [atomsR_one]; rfl
  | n + 1, m, t, h, hn => by
    have ht : t ≠ [] := by rintro rfl; simp at h
    obtain ⟨u, s, rfl⟩ := snoc_of ht
    have hu : u.length = n + 1 := by simpa using h
    rw [atomsR_snoc, runsA_snoc, runs_oneL n m u hu (by omega)]
    unfold runStep
    simp only [List.getLast?_singleton]
    rw [if_pos ⟨by omega, ordM_self _⟩]
    rfl
/-- the atoms of a run are one run -/
theorem runs_one {r : Rn} (h : checkR r = 0) : runsA (atomsR r) = [r] := by
  obtain ⟨_, c2, c3, _, _⟩ := checkR_ok.1 h
  have hp := List.length_pos_iff.2 c2
  exact runs_oneL (r.2.length - 1) r.1 r.2 (by omega) (by omega)
/-- a run cut in two -/
theorem run_cut {r : Rn} (h : checkR r = 0) {c : Nat} (h1 : 1 ≤ c) (h2 : c < r.2.length) :
    (nextM r.1 c).2 = 0 ∧ (nextM r.1 c).1 = afterM r.1 c ∧ checkR (r.1, r.2.take c) = 0 ∧ checkR (afterM r.1 c, r.2.drop c) = 0 ∧
      atomsR (r.1, r.2.take c) ++ atomsR (afterM r.1 c, r.2.drop c) = atomsR r := by
  obtain ⟨c1, c2, c3, c4, c5⟩ := checkR_ok.1 h
  have hm : checkM (afterM r.1 c) = 0 := check_between c1 c5 (by omega) (by omega)
  have hn : (nextM r.1 c).2 = 0 := nextM_ok.2 ⟨c1, by omega, by omega, hm⟩
  have hs : signsB (r.2.take c) = true ∧ signsB (r.2.drop c) = true := by
    have : signsB (r.2.take c ++ r.2.drop c) = true := by rw [List.take_append_drop]; exact c4
    rw [signsB_app, Bool.and_eq_true] at this; exact this
  have hl : (r.2.take c).length = c := by rw [List.length_take]; omega
  refine ⟨hn, nextM_val hn, checkR_ok.2 ⟨c1, ?_, ?_, hs.1, ?_⟩, checkR_ok.2 ⟨hm, ?_, ?_, hs.2, ?_⟩, ?_⟩
  · intro e; have h9 : (r.2.take c).length = 0 := by simp only at e; rw [e]; rfl
    omega
  · simp only; omega
  · simp only [hl]; exact check_between c1 c5 (by omega) (by omega)
  · intro e; have h9 : (r.2.drop c).length = 0 := by simp only at e; rw [e]; rfl
    rw [List.length_drop] at h9; omega
  · simp only [List.length_drop]; omega
  · simp only [List.length_drop, afterM_add]
    rw [show (c : Int) + (((r.2.length - c : Nat) : Int) - 1) = (r.2.length : Int) - 1 by omega]; exact c5
  · have := atomsR_app (r.2.take c) r.1 (r.2.drop c)
    rw [List.take_append_drop, hl] at this
    exact this.symm

end Cp
