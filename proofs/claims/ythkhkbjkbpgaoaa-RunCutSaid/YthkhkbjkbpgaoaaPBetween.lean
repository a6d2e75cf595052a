/- Plain facts on the marks between two others: the gap that is found, and what is made in it. No program in sight. -/
import Derived.Test.YthkhkbjkbpgaoaaPMark
set_option linter.unusedVariables false
set_option linter.unusedSimpArgs false
namespace Cp

/-- steps that lead into a gap; the digits that are free there, from one to another one -/
structure Gap where
  path : List Stp
  least : Int
  most : Int

def aboveL (pre : List Stp) : List Stp → Gap
  | [] => ⟨pre, 1, 200⟩
  | s :: r => if s.1 < 200 then ⟨pre, s.1 + 1, 200⟩ else aboveL (pre ++ [s]) r
def belowL (site : Int) (pre : List Stp) : List Stp → Gap
  | [] => ⟨pre, 1, 200⟩
  | s :: r => if 1 < s.1 then ⟨pre, 1, s.1 - 1⟩ else if s.1 = 1 then ⟨pre ++ [(0, site)], 1, 200⟩ else belowL site (pre ++ [s]) r
def findL (site : Int) (pre : List Stp) : List Stp → List Stp → Gap
  | [], b => belowL site pre b
  | a :: as, [] => aboveL pre (a :: as)
  | a :: as, b :: bs => if a = b then findL site (pre ++ [a]) as bs else if 1 < b.1 - a.1 then ⟨pre, a.1 + 1, b.1 - 1⟩ else aboveL (pre ++ [a]) as
def findG (a b : List Stp) (site : Int) : Gap := if b = [] then aboveL [] a else findL site [] a b

/-- a path stands in a gap: it goes on from a step of it -/
def InGap (g : Gap) (q : List Stp) : Prop := ∃ d s r, g.least ≤ d ∧ d ≤ g.most ∧ q = g.path ++ (d, s) :: r

def betweenErr (a b : Mk) (site clock many : Int) : Int :=
  if checkM a ≠ 0 ∧ noneM a = false then checkM a
  else if checkM b ≠ 0 ∧ noneM b = false then checkM b
  else if ¬ (0 ≤ site ∧ site ≤ 4) ∨ ¬ (1 ≤ clock ∧ clock ≤ 10000) ∨ ¬ (1 ≤ many ∧ many ≤ 60) ∨ 10001 - many < clock then 3
  else if (noneM a = false ∧ noneM b = false) ∧ (0 ≤ ordM a b ∨ a.1 = b.1) then 4
  else if 8 < a.1.length ∨ 8 < b.1.length then 2
  else 0
def betweenGap (a b : Mk) (site many : Int) : Gap :=
  let g := findG a.1 b.1 site
  if g.most - g.least + 1 < many then ⟨g.path ++ [(g.least, site)], 1, 200⟩ else g
def betweenL (a b : Mk) (site clock many : Int) : List Mk :=
  let g := betweenGap a b site many
  (List.range many.toNat).map fun (i : Nat) => (g.path ++ [(g.least + (i : Int), site)], clock + (i : Int))

def okS (s : Stp) : Prop := 0 ≤ s.1 ∧ s.1 ≤ 200 ∧ 0 ≤ s.2 ∧ s.2 ≤ 4
theorem badS_false {s : Stp} : badS s = false ↔ okS s := by
  unfold badS okS
  simp only [Bool.or_eq_false_iff, Bool.not_eq_false', Bool.and_eq_true, decide_eq_true_eq]
  omega

theorem any_badS {p : List Stp} : p.any badS = false ↔ ∀ s ∈ p, okS s := by
  induction p with
  | nil => simp
  | cons s r ih => simp only [List.any_cons, Bool.or_eq_false_iff, ih, badS_false, List.mem_cons, forall_eq_or_imp]

theorem ordS_self (a : Stp) : ordS a a = 0 := ordS_zero.2 rfl
theorem ordP_self (a : List Stp) : ordP a a = 0 := ordP_zero.2 rfl
theorem ordP_app (p a b : List Stp) : ordP (p ++ a) (p ++ b) = ordP a b := by
  induction p with
  | nil => rfl
  | cons s r ih => simp [ordP, ordS_self, ih]
theorem ordP_pre (p : List Stp) (s : Stp) (r : List Stp) : ordP p (p ++ s :: r) = -1 := by
  have := ordP_app p [] (s :: r)
  simpa [ordP] using this
theorem ordP_digit {p : List Stp} {s t : Stp} {r u : List Stp} (h : s.1 < t.1) : ordP (p ++ s :: r) (p ++ t :: u) = -1 := by
  rw [ordP_app]
  have h1 : ordS s t = -1 := ordS_neg.2 (.inl h)
  simp [ordP, h1]

theorem inGap_more {g : Gap} {q : List Stp} (h : InGap g q) (r : List Stp) : InGap g (q ++ r) := by
  obtain ⟨d, s, u, h1, h2, rfl⟩ := h
  exact ⟨d, s, u ++ r, h1, h2, by simp⟩

theorem above_facts : ∀ (r pre : List Stp), (∀ s ∈ r, 0 ≤ s.1 ∧ s.1 ≤ 200) →
    (1 ≤ (aboveL pre r).least ∧ (aboveL pre r).least ≤ (aboveL pre r).most ∧ (aboveL pre r).most ≤ 200) ∧
    (aboveL pre r).path.length ≤ pre.length + r.length ∧ (∃ u, (aboveL pre r).path = pre ++ u ∧ ∀ s ∈ u, s ∈ r) ∧
    ∀ q, InGap (aboveL pre r) q → ordP (pre ++ r) q = -1
  | [], pre, _ => by
    refine ⟨by simp [aboveL], by simp [aboveL], ⟨[], by simp [aboveL]⟩, ?_⟩
    rintro q ⟨d, s, u, _, _, rfl⟩
    simpa [aboveL] using ordP_pre pre (d, s) u
  | t :: r, pre, h => by
    have ht := h t (by simp)
    by_cases hlt : t.1 < 200
    · have e : aboveL pre (t :: r) = ⟨pre, t.1 + 1, 200⟩ := by simp [aboveL, hlt]
      rw [e]
      refine ⟨by simp; omega, by simp, ⟨[], by simp⟩, ?_⟩
      rintro q ⟨d, s, u, h1, _, rfl⟩
      exact ordP_digit (by simp at h1 ⊢; omega)
    · have e : aboveL pre (t :: r) = aboveL (pre ++ [t]) r := by simp [aboveL, hlt]
      rw [e]
      obtain ⟨h1, h2, ⟨u, h3, h4⟩, h5⟩ := above_facts r (pre ++ [t]) (fun s hs => h s (by simp [hs]))
      refine ⟨h1, by simp at h2 ⊢; omega, ⟨t :: u, by rw [h3]; simp, fun s hs => ?_⟩, fun q hq => ?_⟩
      · rcases List.mem_cons.1 hs with rfl | hs
        · simp
        · simp [h4 s hs]
      · have := h5 q hq
        simpa using this

theorem below_facts (site : Int) : ∀ (r pre : List Stp), (∀ s ∈ r, 0 ≤ s.1 ∧ s.1 ≤ 200) → r ≠ [] → lastDigit r ≠ 0 →
    (1 ≤ (belowL site pre r).least ∧ (belowL site pre r).least ≤ (belowL site pre r).most ∧ (belowL site pre r).most ≤ 200) ∧
    (belowL site pre r).path.length ≤ pre.length + r.length ∧ (∃ u, (belowL site pre r).path = pre ++ u ∧ ∀ s ∈ u, s ∈ r ∨ s = (0, site)) ∧
    ∀ q, InGap (belowL site pre r) q → ordP q (pre ++ r) = -1 ∧ ordP pre q = -1
  | [], pre, _, h, _ => absurd rfl h
  | t :: r, pre, h, _, hl => by
    have ht := h t (by simp)
    by_cases h1 : 1 < t.1
    · have e : belowL site pre (t :: r) = ⟨pre, 1, t.1 - 1⟩ := by simp [belowL, h1]
      rw [e]
      refine ⟨by simp; omega, by simp, ⟨[], by simp⟩, ?_⟩
      rintro q ⟨d, s, u, _, h2, rfl⟩
      exact ⟨ordP_digit (by simp at h2 ⊢; omega), ordP_pre pre _ _⟩
    by_cases h2 : t.1 = 1
    · have e : belowL site pre (t :: r) = ⟨pre ++ [(0, site)], 1, 200⟩ := by simp [belowL, h2]
      rw [e]
      refine ⟨by simp, by simp, ⟨[(0, site)], by simp⟩, ?_⟩
      rintro q ⟨d, s, u, _, _, rfl⟩
      simp only [List.append_assoc, List.cons_append, List.nil_append]
      exact ⟨ordP_digit (by simp; omega), ordP_pre pre _ _⟩
    · have e : belowL site pre (t :: r) = belowL site (pre ++ [t]) r := by simp [belowL, h1, h2]
      rw [e]
      cases r with
      | nil => simp [lastDigit] at hl; omega
      | cons t' r' =>
        obtain ⟨h3, h4, ⟨u, h5, h6⟩, h7⟩ := below_facts site (t' :: r') (pre ++ [t]) (fun s hs => h s (by simp at hs ⊢; right; exact hs)) (by simp) (by simpa [lastDigit] using hl)
        refine ⟨h3, by simp at h4 ⊢; omega, ⟨t :: u, by rw [h5]; simp, fun s hs => ?_⟩, fun q hq => ?_⟩
        · rcases List.mem_cons.1 hs with rfl | hs
          · simp
          · rcases h6 s hs with h' | h'
            · left; simp at h' ⊢; right; exact h'
            · right; exact h'
        · obtain ⟨h8, h9⟩ := h7 q hq
          refine ⟨by simpa using h8, ?_⟩
          have hp := ordP_pre pre t []
          exact ordP_trans hp h9

theorem find_facts (site : Int) : ∀ (a b pre : List Stp), (∀ s ∈ a, 0 ≤ s.1 ∧ s.1 ≤ 200) → (∀ s ∈ b, 0 ≤ s.1 ∧ s.1 ≤ 200) →
    (b ≠ [] → lastDigit b ≠ 0) → ordP a b = -1 →
    (1 ≤ (findL site pre a b).least ∧ (findL site pre a b).least ≤ (findL site pre a b).most ∧ (findL site pre a b).most ≤ 200) ∧
    (findL site pre a b).path.length ≤ pre.length + max a.length b.length ∧ (∃ u, (findL site pre a b).path = pre ++ u ∧ ∀ s ∈ u, s ∈ a ∨ s ∈ b ∨ s = (0, site)) ∧
    ∀ q, InGap (findL site pre a b) q → ordP (pre ++ a) q = -1 ∧ ordP q (pre ++ b) = -1
  | [], b, pre, _, hb, hl, ho => by
    have hne : b ≠ [] := by rintro rfl; simp [ordP] at ho
    have e : findL site pre [] b = belowL site pre b := by cases b <;> rfl
    rw [e]
    obtain ⟨h1, h2, ⟨u, h3, h4⟩, h5⟩ := below_facts site b pre hb hne (hl hne)
    refine ⟨h1, by simpa using h2, ⟨u, h3, fun s hs => ?_⟩, fun q hq => ?_⟩
    · rcases h4 s hs with h | h
      · exact .inr (.inl h)
      · exact .inr (.inr h)
    · exact ⟨by simpa using (h5 q hq).2, (h5 q hq).1⟩
  | a :: as, [], pre, _, _, _, ho => by simp [ordP] at ho
  | a :: as, b :: bs, pre, ha, hb, hl, ho => by
    have ha0 := ha a (by simp)
    have hb0 := hb b (by simp)
    by_cases hab : a = b
    · subst hab
      have e : findL site pre (a :: as) (a :: bs) = findL site (pre ++ [a]) as bs := by simp [findL]
      rw [e]
      have ho' : ordP as bs = -1 := by simpa [ordP, ordS_self] using ho
      obtain ⟨h1, h2, ⟨u, h3, h4⟩, h5⟩ := find_facts site as bs (pre ++ [a]) (fun s hs => ha s (by simp [hs])) (fun s hs => hb s (by simp [hs]))
        (fun hne => by
          have := hl (by simp)
          cases bs with
          | nil => exact absurd rfl hne
          | cons x y => simpa [lastDigit] using this) ho'
      refine ⟨h1, ?_, ⟨a :: u, by rw [h3]; simp, fun s hs => ?_⟩, fun q hq => ?_⟩
      · simp only [List.length_append, List.length_cons, List.length_nil] at h2 ⊢; omega
      · rcases List.mem_cons.1 hs with rfl | hs
        · exact .inl (by simp)
        · rcases h4 s hs with h | h | h
          · exact .inl (by simp [h])
          · exact .inr (.inl (by simp [h]))
          · exact .inr (.inr h)
      · have := h5 q hq
        simpa using this
    · have hs : ordS a b = -1 := by
        by_cases h0 : ordS a b = 0
        · exact absurd (ordS_zero.1 h0) hab
        · simpa [ordP, h0] using ho
      have hd : a.1 ≤ b.1 := by rw [ordS_neg] at hs; omega
      by_cases h1 : 1 < b.1 - a.1
      · have e : findL site pre (a :: as) (b :: bs) = ⟨pre, a.1 + 1, b.1 - 1⟩ := by simp [findL, hab, h1]
        rw [e]
        refine ⟨by simp; omega, by simp, ⟨[], by simp⟩, ?_⟩
        rintro q ⟨d, s, u, h2, h3, rfl⟩
        simp only at h2 h3
        exact ⟨ordP_digit (by simp; omega), ordP_digit (by simp; omega)⟩
      · have e : findL site pre (a :: as) (b :: bs) = aboveL (pre ++ [a]) as := by simp [findL, hab, h1]
        rw [e]
        obtain ⟨h2, h3, ⟨u, h4, h5⟩, h6⟩ := above_facts as (pre ++ [a]) (fun s hs => ha s (by simp [hs]))
        refine ⟨h2, ?_, ⟨a :: u, by rw [h4]; simp, fun s hs => ?_⟩, fun q hq => ⟨?_, ?_⟩⟩
        · simp only [List.length_append, List.length_cons, List.length_nil] at h3 ⊢; omega
        · rcases List.mem_cons.1 hs with rfl | hs
          · exact .inl (by simp)
          · exact .inl (by simp [h5 s hs])
        · have := h6 q hq
          simpa using this
        · obtain ⟨d, s, r, _, _, rfl⟩ := hq
          rw [h4]
          simp only [List.append_assoc, List.cons_append, List.nil_append]
          rw [ordP_app]
          simp [ordP, hs]

/-- what the gap between two is: both may be none -/
theorem gap_facts (a b : List Stp) (site : Int) (ha : ∀ s ∈ a, 0 ≤ s.1 ∧ s.1 ≤ 200) (hb : ∀ s ∈ b, 0 ≤ s.1 ∧ s.1 ≤ 200)
    (hl : b ≠ [] → lastDigit b ≠ 0) (ho : b ≠ [] → ordP a b = -1) :
    (1 ≤ (findG a b site).least ∧ (findG a b site).least ≤ (findG a b site).most ∧ (findG a b site).most ≤ 200) ∧
    (findG a b site).path.length ≤ max a.length b.length ∧ (∀ s ∈ (findG a b site).path, s ∈ a ∨ s ∈ b ∨ s = (0, site)) ∧
    ∀ q, InGap (findG a b site) q → ordP a q = -1 ∧ (b ≠ [] → ordP q b = -1) := by
  unfold findG
  by_cases hne : b = []
  · rw [if_pos hne]
    obtain ⟨h1, h2, ⟨u, h3, h4⟩, h5⟩ := above_facts a [] ha
    refine ⟨h1, by simp at h2; omega, fun s hs => ?_, fun q hq => ⟨by simpa using h5 q hq, fun h => absurd hne h⟩⟩
    rw [h3] at hs
    exact .inl (h4 s (by simpa using hs))
  · rw [if_neg hne]
    obtain ⟨h1, h2, ⟨u, h3, h4⟩, h5⟩ := find_facts site a b [] ha hb hl (ho hne)
    refine ⟨h1, by simpa using h2, fun s hs => ?_, fun q hq => ?_⟩
    · rw [h3] at hs
      exact h4 s (by simpa using hs)
    · have := h5 q hq
      exact ⟨by simpa using this.1, fun _ => by simpa using this.2⟩

/-- the depth that is allowed -/
def deepM (a b : Mk) (many : Int) : Int := (max a.1.length b.1.length : Nat) + 1 + (if 1 < many then 1 else 0)
/-- is the mark at a place of a list what it must be? -/
def okAt (a b : Mk) (site clock many : Int) (l : List Mk) (i : Nat) : Bool :=
  let m := l.getD i ([], 0)
  decide (checkM m = 0) && decide (m.2 = clock + i) && decide (lastSite m.1 = site) && decide ((m.1.length : Int) ≤ deepM a b many) &&
  (decide (i = 0) || decide (ordM (l.getD (i - 1) ([], 0)) m < 0)) && (noneM a || decide (ordM a m < 0)) && (noneM b || decide (ordM m b < 0))
def isBetweenB (a b : Mk) (site clock many : Int) (l : List Mk) : Bool :=
  decide ((l.length : Int) = many) && (List.range l.length).all fun i => okAt a b site clock many l i

theorem lastDigit_app (p : List Stp) (s : Stp) : lastDigit (p ++ [s]) = s.1 := by simp [lastDigit]
theorem lastSite_app (p : List Stp) (s : Stp) : lastSite (p ++ [s]) = s.2 := by simp [lastSite]
theorem noneM_true {m : Mk} : noneM m = true ↔ m = ([], 0) := by
  rcases m with ⟨p, c⟩
  simp [noneM]
theorem noneM_false {m : Mk} (h : noneM m = false) : m ≠ ([], 0) := fun e => by rw [noneM_true.2 e] at h; cases h

theorem betweenErr_ok {a b : Mk} {site clock many : Int} (h : betweenErr a b site clock many = 0) :
    (noneM a = true ∨ checkM a = 0) ∧ (noneM b = true ∨ checkM b = 0) ∧ (0 ≤ site ∧ site ≤ 4) ∧ (1 ≤ clock ∧ clock ≤ 10000) ∧ (1 ≤ many ∧ many ≤ 60) ∧ clock + many ≤ 10001 ∧
    (noneM a = false → noneM b = false → ordM a b = -1 ∧ a.1 ≠ b.1) ∧ a.1.length ≤ 8 ∧ b.1.length ≤ 8 := by
  unfold betweenErr at h
  split at h
  · rename_i h1; exact absurd h h1.1
  split at h
  · rename_i h1; exact absurd h h1.1
  split at h
  · omega
  split at h
  · omega
  split at h
  · omega
  rename_i h1 h2 h3 h4 h5
  refine ⟨?_, ?_, by omega, by omega, by omega, by omega, fun ha hb => ?_, by omega, by omega⟩
  · cases hn : noneM a with
    | true => exact .inl rfl
    | false => right; apply Classical.byContradiction; intro h6; exact h1 ⟨h6, hn⟩
  · cases hn : noneM b with
    | true => exact .inl rfl
    | false => right; apply Classical.byContradiction; intro h6; exact h2 ⟨h6, hn⟩
  · have := ordM_range a b
    refine ⟨?_, fun e => h4 ⟨⟨ha, hb⟩, .inr e⟩⟩
    have : ¬ 0 ≤ ordM a b := fun e => h4 ⟨⟨ha, hb⟩, .inl e⟩
    omega

theorem right_of (a : Mk) (h : noneM a = true ∨ checkM a = 0) : (∀ s ∈ a.1, okS s) ∧ (a.1 ≠ [] → lastDigit a.1 ≠ 0) ∧ (noneM a = false → a.1 ≠ []) := by
  rcases h with h | h
  · have := noneM_true.1 h
    subst this
    simp [noneM]
  · obtain ⟨_, h2, h3, h4, _⟩ := checkM_ok.1 h
    exact ⟨any_badS.1 h3, fun _ => h4, fun _ => h2⟩

/-- WHAT IS MADE LIES BETWEEN -/
theorem between_is {a b : Mk} {site clock many : Int} (h : betweenErr a b site clock many = 0) :
    isBetweenB a b site clock many (betweenL a b site clock many) = true := by
  obtain ⟨ha, hb, hs, hc, hm, hcm, hab, hla, hlb⟩ := betweenErr_ok h
  obtain ⟨ra, _, na⟩ := right_of a ha
  obtain ⟨rb, lb, nb⟩ := right_of b hb
  have hord : b.1 ≠ [] → ordP a.1 b.1 = -1 := by
    intro hne
    cases hna : noneM a with
    | true =>
      have := noneM_true.1 hna
      subst this
      cases hb1 : b.1 with
      | nil => exact absurd hb1 hne
      | cons x y => simp [ordP]
    | false =>
      cases hnb : noneM b with
      | true => have := noneM_true.1 hnb; subst this; simp at hne
      | false =>
        obtain ⟨h1, h2⟩ := hab hna hnb
        unfold ordM at h1
        split at h1
        · rename_i h3; exact absurd (ordP_zero.1 h3) h2
        · exact h1
  obtain ⟨hg1, hg2, hg3, hg4⟩ := gap_facts a.1 b.1 site (fun s hs => ⟨(ra s hs).1, (ra s hs).2.1⟩) (fun s hs => ⟨(rb s hs).1, (rb s hs).2.1⟩) lb hord
  -- the gap that is used at last
  have key : ∃ g : Gap, betweenGap a b site many = g ∧ 1 ≤ g.least ∧ g.least + many ≤ 201 ∧ (g.path.length + 1 : Int) ≤ deepM a b many ∧ (∀ s ∈ g.path, okS s) ∧
      ∀ (d : Int) (u : List Stp), g.least ≤ d → d < g.least + many → InGap (findG a.1 b.1 site) (g.path ++ (d, site) :: u) := by
    have okp : ∀ s ∈ (findG a.1 b.1 site).path, okS s := fun s hs' => by
      rcases hg3 s hs' with h1 | h1 | h1
      · exact ra s h1
      · exact rb s h1
      · subst h1; exact ⟨by simp, by simp, hs.1, hs.2⟩
    by_cases hw : (findG a.1 b.1 site).most - (findG a.1 b.1 site).least + 1 < many
    · refine ⟨⟨(findG a.1 b.1 site).path ++ [((findG a.1 b.1 site).least, site)], 1, 200⟩, by simp [betweenGap, hw], by simp, by simp; omega, ?_, ?_, ?_⟩
      · unfold deepM
        rw [if_pos (by omega)]
        simp only [List.length_append, List.length_cons, List.length_nil]
        omega
      · intro s hs'
        rcases List.mem_append.1 hs' with h1 | h1
        · exact okp s h1
        · have : s = ((findG a.1 b.1 site).least, site) := by simpa using h1
          subst this
          exact ⟨by simp; omega, by simp; omega, hs.1, hs.2⟩
      · intro d u _ _
        exact ⟨_, site, (d, site) :: u, Int.le_refl _, by omega, by simp⟩
    · refine ⟨findG a.1 b.1 site, by simp [betweenGap, hw], hg1.1, by omega, ?_, okp, fun d u h1 h2 => ⟨d, site, u, h1, by omega, rfl⟩⟩
      unfold deepM
      split <;> omega
  obtain ⟨g, hg, hl1, hl2, hdeep, hok, hin⟩ := key
  have hget : ∀ i : Nat, i < many.toNat → (betweenL a b site clock many).getD i ([], 0) = (g.path ++ [(g.least + (i : Int), site)], clock + (i : Int)) := by
    intro i hi
    unfold betweenL
    rw [hg]
    simp [List.getD, List.getElem?_map, List.getElem?_range hi]
  have hlen : (betweenL a b site clock many).length = many.toNat := by simp [betweenL]
  unfold isBetweenB
  rw [hlen]
  simp only [Bool.and_eq_true, decide_eq_true_eq, List.all_eq_true, List.mem_range]
  refine ⟨by omega, fun i hi => ?_⟩
  unfold okAt
  rw [hget i hi]
  have hgap : InGap (findG a.1 b.1 site) (g.path ++ [(g.least + (i : Int), site)]) := hin _ [] (by omega) (by omega)
  obtain ⟨h1, h2⟩ := hg4 _ hgap
  simp only [Bool.and_eq_true, decide_eq_true_eq, Bool.or_eq_true]
  refine ⟨⟨⟨⟨⟨⟨?_, by simp⟩, ?_⟩, ?_⟩, ?_⟩, ?_⟩, ?_⟩
  · rw [checkM_ok]
    refine ⟨?_, by simp, ?_, by rw [lastDigit_app]; simp; omega, by simp; omega, by simp; omega⟩
    · have : deepM a b many ≤ 10 := by unfold deepM; split <;> omega
      simp only [List.length_append, List.length_cons, List.length_nil]
      omega
    · rw [any_badS]
      intro s hs'
      rcases List.mem_append.1 hs' with h3 | h3
      · exact hok s h3
      · have : s = (g.least + (i : Int), site) := by simpa using h3
        subst this
        exact ⟨by simp; omega, by simp; omega, hs.1, hs.2⟩
  · rw [lastSite_app]
  · simp only [List.length_append, List.length_cons, List.length_nil]
    omega
  · by_cases h0 : i = 0
    · exact .inl h0
    · right
      rw [hget (i - 1) (by omega)]
      unfold ordM
      have : ordP (g.path ++ [(g.least + ((i - 1 : Nat) : Int), site)]) (g.path ++ [(g.least + (i : Int), site)]) = -1 := ordP_digit (by simp; omega)
      simp [this]
  · cases hna : noneM a with
    | true => exact .inl rfl
    | false => right; unfold ordM; simp [h1]
  · cases hnb : noneM b with
    | true => exact .inl rfl
    | false => right; unfold ordM; simp [h2 (nb hnb)]

end Cp
