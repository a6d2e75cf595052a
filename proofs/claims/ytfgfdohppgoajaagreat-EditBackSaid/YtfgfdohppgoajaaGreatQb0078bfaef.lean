/- What edit.Put makes: plain. -/
import Derived.Test.YtfgfdohppgoajaaGreatQ1690926dd5
import Derived.Test.YtfgfdohppgoajaaGreatQa1b06f5163
import Derived.Test.YtfgfdohppgoajaaGreatQ8ebb1f5718
import Derived.Test.YtfgfdohppgoajaaGreatQ35d0a6f017
import Derived.Test.YtfgfdohppgoajaaGreatQ0968510478
set_option linter.unusedVariables false
set_option linter.unusedSimpArgs false
namespace Go.Proofs.YtfgfdohppgoajaaGreat
open Go Go.RowKit Go.BigFrame Cp

theorem isB_parts {a b : Mk} {site clock many : Int} {q : List Mk} (h : isBetweenB a b site clock many q = true) :
    (q.length : Int) = many ∧ ∀ (i : Nat) (x : Mk), q[i]? = some x → checkM x = 0 ∧ x.2 = clock + i ∧ lastSite x.1 = site ∧
      (∀ y, 0 < i → q[i - 1]? = some y → ordM y x < 0) ∧ (noneM a = false → ordM a x < 0) ∧ (noneM b = false → ordM x b < 0) := by
  unfold isBetweenB at h
  simp only [Bool.and_eq_true, decide_eq_true_eq, List.all_eq_true, List.mem_range] at h
  refine ⟨h.1, fun i x hx => ?_⟩
  have hi : i < q.length := (List.getElem?_eq_some_iff.1 hx).1
  have := h.2 i hi
  unfold okAt at this
  have e : q.getD i ([], 0) = x := by simp [List.getD, hx]
  rw [e] at this
  simp only [Bool.and_eq_true, decide_eq_true_eq, Bool.or_eq_true] at this
  obtain ⟨⟨⟨⟨⟨⟨h1, h2⟩, h3⟩, _⟩, h5⟩, h6⟩, h7⟩ := this
  refine ⟨h1, h2, h3, fun y h0 hy => ?_, fun hn => ?_, fun hn => ?_⟩
  · rcases h5 with h5 | h5
    · omega
    · have e2 : q.getD (i - 1) ([], 0) = y := by simp [List.getD, hy]
      rwa [e2] at h5
  · rcases h6 with h6 | h6
    · rw [hn] at h6; cases h6
    · exact h6
  · rcases h7 with h7 | h7
    · rw [hn] at h7; cases h7
    · exact h7
def usedB (s : St) (site clock : Int) : Bool := s.2.any (fun x => laterB site clock x) || s.1.any fun x => laterB site clock x.1
def putE (s : St) (p : Int) (t : Tx) (site clock : Int) : Int :=
  if checkS s ≠ 0 then checkS s else if insideB p 0 s.1.length = false then 3 else if usedB s site clock = true then 4
  else if 60 < t.length ∨ 300 < s.1.length + t.length then 2 else if t = [] then 1 else if signsB t = false then 3
  else betweenErr (nearA s.1 p.toNat) (nearB s.1 p.toNat) site clock t.length
def putMs (s : St) (k : Nat) (t : Tx) (site clock : Int) : List Mk := betweenL (nearA s.1 k) (nearB s.1 k) site clock t.length
def putAs (s : St) (k : Nat) (t : Tx) (site clock : Int) : List At := (putMs s k t site clock).zip t
def putV (s : St) (p : Int) (t : Tx) (site clock : Int) : List De := if putE s p t site clock = 0 then (runsA (putAs s p.toNat t site clock)).map putDe else []
theorem zip_right {a b : Mk} {site clock : Int} {t : Tx} (h : betweenErr a b site clock t.length = 0) (hs : signsB t = true) (ht : t.length ≤ 60) :
    (betweenL a b site clock t.length).length = t.length ∧ checkA ((betweenL a b site clock t.length).zip t) = 0 := by
  obtain ⟨hl, hp⟩ := isB_parts (between_is h)
  generalize betweenL a b site clock t.length = q at *
  have hl' : q.length = t.length := by omega
  refine ⟨hl', ?_⟩
  have hr : RightA (q.zip t) := by
    refine ⟨sortedA_idx fun i x y hx hy => ?_, fun x hx => ?_⟩
    · obtain ⟨hx1, _⟩ := List.getElem?_zip_eq_some.1 hx
      obtain ⟨hy1, _⟩ := List.getElem?_zip_eq_some.1 hy
      exact ordM_lt.1 ((hp (i + 1) y.1 hy1).2.2.2.1 x.1 (by omega) (by rw [Nat.add_sub_cancel]; exact hx1))
    · obtain ⟨i, hi⟩ := List.getElem?_of_mem hx
      obtain ⟨hx1, hx2⟩ := List.getElem?_zip_eq_some.1 hi
      exact ⟨(hp i x.1 hx1).1, by unfold signsB at hs; exact List.all_eq_true.1 hs _ (List.mem_of_getElem? hx2)⟩
  rw [right_to hr, if_neg (by rw [List.length_zip]; omega)]
end Go.Proofs.YtfgfdohppgoajaaGreat
/- What Put makes is what IsPut asks for: plain. -/
namespace Go.Proofs.YtfgfdohppgoajaaGreat
open Go Go.RowKit Go.BigFrame Cp

theorem putA_mid {a : At} {B : List At} (hB : ∀ y ∈ B, ordM a.1 y.1 = -1) : ∀ {A : List At}, (∀ x ∈ A, ordM x.1 a.1 = -1) → putA (A ++ B) a = A ++ a :: B
  | [], _ => by
    cases B with
    | nil => rfl
    | cons y r =>
      have h := ordM_swap' (hB y (by simp))
      rw [List.nil_append, putA_cons, if_neg (by omega), if_pos h]; rfl
  | x :: A, hA => by
    have h := hA x (by simp)
    rw [List.cons_append, putA_cons, if_neg (by omega), if_neg (by omega), putA_mid hB (fun z hz => hA z (List.mem_cons_of_mem _ hz))]; rfl
theorem mergeA_mid {B : List At} : ∀ {m A : List At}, SortedA m → (∀ a ∈ m, ∀ x ∈ A, ordM x.1 a.1 = -1) → (∀ a ∈ m, ∀ y ∈ B, ordM a.1 y.1 = -1) → mergeA (A ++ B) m = A ++ m ++ B
  | [], A, _, _, _ => by simp [mergeA]
  | a :: m, A, hs, hA, hB => by
    have e : mergeA (A ++ B) (a :: m) = mergeA (putA (A ++ B) a) m := rfl
    rw [e, putA_mid (hB a (by simp)) (hA a (by simp))]
    have e2 : A ++ a :: B = (A ++ [a]) ++ B := by simp
    rw [e2, mergeA_mid (sortedA_tail hs) (fun b hb x hx => ?_) (fun b hb => hB b (List.mem_cons_of_mem _ hb))]
    · simp
    · rcases List.mem_append.1 hx with hx | hx
      · exact hA b (List.mem_cons_of_mem _ hb) x hx
      · have : x = a := by simpa using hx
        subst this
        exact sortedA_head hs b hb
theorem mergeA_app (l m n : List At) : mergeA l (m ++ n) = mergeA (mergeA l m) n := by unfold mergeA; rw [List.foldl_append]
theorem doDeed_put {s : St} {r : Rn} (hg : ∀ a ∈ atomsR r, hasG s.2 a.1 = false) : doDeed s (putDe r) = (mergeA s.1 (atomsR r), s.2) := by
  unfold doDeed
  rw [if_pos (show (putDe r).kind = 1 from rfl), putNs_merge, List.filter_eq_self.2 (fun a ha => by rw [show (putDe r).run = r from rfl] at ha; rw [hg a ha]; rfl)]; rfl
theorem doDs_puts : ∀ (rs : List Rn) (s : St), (∀ a ∈ rs.flatMap atomsR, hasG s.2 a.1 = false) → s.1.length + (rs.flatMap atomsR).length ≤ 300 → s.2.length ≤ 600 →
    doDs s (rs.map putDe) = some (mergeA s.1 (rs.flatMap atomsR), s.2)
  | [], s, _, _, _ => rfl
  | r :: rs, s, hg, hl, h6 => by
    rw [List.flatMap_cons] at hg hl ⊢
    have hd := doDeed_put (s := s) (r := r) (fun a ha => hg a (List.mem_append.2 (.inl ha)))
    have hle := mergeA_len (atomsR r) s.1
    rw [List.length_append] at hl
    have e : doDs s ((r :: rs).map putDe) = if tooMuch (doDeed s (putDe r)) = true then none else doDs (doDeed s (putDe r)) (rs.map putDe) := rfl
    rw [e, hd, if_neg (by unfold tooMuch; simp; omega), doDs_puts rs (mergeA s.1 (atomsR r), s.2) (fun a ha => hg a (List.mem_append.2 (.inr ha))) (by simp only; omega) h6, mergeA_app]
theorem putE_parts {s : St} {p : Int} {t : Tx} {site clock : Int} (h : putE s p t site clock = 0) :
    FitS s ∧ (∃ k : Nat, p = (k : Int) ∧ k ≤ s.1.length) ∧ usedB s site clock = false ∧ t.length ≤ 60 ∧ s.1.length + t.length ≤ 300 ∧ t ≠ [] ∧ signsB t = true ∧
      betweenErr (nearA s.1 p.toNat) (nearB s.1 p.toNat) site clock t.length = 0 := by
  unfold putE at h
  by_cases h0 : checkS s = 0
  · rw [if_neg (by simpa using h0)] at h
    by_cases h1 : insideB p 0 s.1.length = false
    · rw [if_pos h1] at h; cases h
    · rw [if_neg h1] at h
      by_cases h2 : usedB s site clock = true
      · rw [if_pos h2] at h; cases h
      · rw [if_neg h2] at h
        by_cases h3 : 60 < t.length ∨ 300 < s.1.length + t.length
        · rw [if_pos h3] at h; cases h
        · rw [if_neg h3] at h
          by_cases h4 : t = []
          · rw [if_pos h4] at h; cases h
          · rw [if_neg h4] at h
            by_cases h5 : signsB t = false
            · rw [if_pos h5] at h; cases h
            · rw [if_neg h5] at h
              obtain ⟨i, j, e1, _, e2⟩ := inside_nat (by simpa using h1)
              exact ⟨checkS_fit.1 h0, ⟨i, e1, by omega⟩, by simpa using h2, by omega, by omega, h4, by simpa using h5, h⟩
  · rw [if_pos (by simpa using h0)] at h; exact absurd h h0
theorem check_none' {m : Mk} (h : checkM m = 0) : noneM m = false := by
  have := check_ne h
  unfold noneM
  obtain ⟨p, c⟩ := m
  cases p with
  | nil => exact absurd rfl this
  | cons a r => rfl
theorem take_near {l : List At} (hs : SortedA l) (hc : ∀ a ∈ l, checkM a.1 = 0 ∧ signB a.2 = true) {k : Nat} (hk : k ≤ l.length) {m : Mk} (h : noneM (nearA l k) = false → ordM (nearA l k) m < 0) :
    ∀ x ∈ l.take k, ordM x.1 m = -1 := by
  intro x hx
  obtain ⟨i, hi⟩ := List.getElem?_of_mem hx
  rw [List.getElem?_take] at hi
  split at hi
  · rename_i hik
    have hk0 : ¬ k = 0 := by omega
    have hlt : k - 1 < l.length := by omega
    have e : nearA l k = (l[k - 1]).1 := by unfold nearA; rw [if_neg hk0, List.getElem?_eq_getElem hlt]; rfl
    have h2 := h (by rw [e]; exact check_none' (hc _ (List.getElem_mem hlt)).1)
    rw [e] at h2
    have h3 := ordM_lt.1 h2
    rcases Nat.lt_or_ge i (k - 1) with hlt2 | hge
    · exact ordM_trans (sortedA_lt hs (k - 1) x _ i hlt2 hi (List.getElem?_eq_getElem hlt)) h3
    · have e3 : i = k - 1 := by omega
      subst e3
      rw [List.getElem?_eq_getElem hlt] at hi
      injection hi with hi
      rw [← hi]; exact h3
  · cases hi
theorem drop_near {l : List At} (hs : SortedA l) (hc : ∀ a ∈ l, checkM a.1 = 0 ∧ signB a.2 = true) {k : Nat} {m : Mk} (h : noneM (nearB l k) = false → ordM m (nearB l k) < 0) :
    ∀ x ∈ l.drop k, ordM m x.1 = -1 := by
  intro x hx
  obtain ⟨i, hi⟩ := List.getElem?_of_mem hx
  rw [List.getElem?_drop] at hi
  have hlt : k < l.length := by have := (List.getElem?_eq_some_iff.1 hi).1; omega
  have e : nearB l k = (l[k]).1 := by unfold nearB; rw [List.getElem?_eq_getElem hlt]; rfl
  have h2 := h (by rw [e]; exact check_none' (hc _ (List.getElem_mem hlt)).1)
  rw [e] at h2
  have h3 := ordM_lt.1 h2
  rcases Nat.eq_zero_or_pos i with rfl | hpos
  · rw [Nat.add_zero, List.getElem?_eq_getElem hlt] at hi
    injection hi with hi
    rw [← hi]; exact h3
  · exact ordM_trans h3 (sortedA_lt hs (k + i) _ x k (by omega) (List.getElem?_eq_getElem hlt) hi)
/-- what IsPut asks for -/
theorem put_facts {s : St} {k : Nat} {t : Tx} {site clock : Int} (h : putE s (k : Int) t site clock = 0) :
    (putAs s k t site clock).length = t.length ∧ checkA (putAs s k t site clock) = 0 ∧ putV s k t site clock = (runsA (putAs s k t site clock)).map putDe ∧
    (runsA (putAs s k t site clock)).flatMap atomsR = putAs s k t site clock ∧ (∀ r ∈ runsA (putAs s k t site clock), checkR r = 0) ∧
    (∀ (i : Nat) (a : At), (putAs s k t site clock)[i]? = some a → checkM a.1 = 0 ∧ t[i]? = some a.2 ∧ lastSite a.1.1 = site ∧ a.1.2 = clock + i ∧ hasM s.1 a.1 = false ∧ hasG s.2 a.1 = false) ∧
    doDs s (putV s k t site clock) = some (s.1.take k ++ putAs s k t site clock ++ s.1.drop k, s.2) := by
  obtain ⟨hf, ⟨k', hk1, hk⟩, hus, ht, hlt, _, hsg, hb⟩ := putE_parts h
  obtain rfl : k = k' := by omega
  rw [Int.toNat_natCast] at hb
  obtain ⟨hl, hck⟩ := zip_right hb hsg ht
  have hV : putV s k t site clock = (runsA (putAs s k t site clock)).map putDe := by unfold putV; rw [if_pos h, Int.toNat_natCast]
  obtain ⟨hq1, hq⟩ := isB_parts (between_is hb)
  obtain ⟨hi1, hi2, _⟩ := runs_back (l := putAs s k t site clock) hck
  have hal : (putAs s k t site clock).length = t.length := by unfold putAs putMs; rw [List.length_zip]; omega
  have hat : ∀ (i : Nat) (a : At), (putAs s k t site clock)[i]? = some a → checkM a.1 = 0 ∧ t[i]? = some a.2 ∧ lastSite a.1.1 = site ∧ a.1.2 = clock + i ∧ hasM s.1 a.1 = false ∧ hasG s.2 a.1 = false := by
    intro i a ha
    obtain ⟨ha1, ha2⟩ := List.getElem?_zip_eq_some.1 ha
    obtain ⟨c1, c2, c3, _, _, _⟩ := hq i a.1 ha1
    have hlat : laterB site clock a.1 = true := by unfold laterB; rw [c3, c2, decide_eq_true (by omega)]; simp
    unfold usedB at hus
    rw [Bool.or_eq_false_iff] at hus
    refine ⟨c1, ha2, c3, c2, ?_, ?_⟩
    · rw [hasM_false]
      intro x hx e
      have := List.any_eq_false.1 hus.2 x hx
      rw [e] at this
      exact this hlat
    · cases hg : hasG s.2 a.1 with
      | false => rfl
      | true => exact absurd hlat (List.any_eq_false.1 hus.1 _ (hasG_iff.1 hg))
  refine ⟨hal, hck, hV, hi1, hi2, hat, ?_⟩
  rw [hV, doDs_puts _ s (fun a ha => ?_) (by rw [hi1]; omega) hf.2.2, hi1]
  · have hso := (checkA_ok hck).2.1
    have hm := mergeA_mid (A := s.1.take k) (B := s.1.drop k) (m := putAs s k t site clock) hso (fun a ha => ?_) (fun a ha => ?_)
    · rw [List.take_append_drop] at hm
      rw [hm]
    · obtain ⟨i, hi⟩ := List.getElem?_of_mem ha
      obtain ⟨ha1, _⟩ := List.getElem?_zip_eq_some.1 hi
      exact take_near hf.1.1.1 hf.1.1.2 hk (hq i a.1 ha1).2.2.2.2.1
    · obtain ⟨i, hi⟩ := List.getElem?_of_mem ha
      obtain ⟨ha1, _⟩ := List.getElem?_zip_eq_some.1 hi
      exact drop_near hf.1.1.1 hf.1.1.2 (hq i a.1 ha1).2.2.2.2.2
  · rw [hi1] at ha
    obtain ⟨i, hi⟩ := List.getElem?_of_mem ha
    exact (hat i a hi).2.2.2.2.2
end Go.Proofs.YtfgfdohppgoajaaGreat
/- What is put and taken again: plain. -/
namespace Go.Proofs.YtfgfdohppgoajaaGreat
open Go Cp

theorem checkD_putV {r : Rn} (h : checkR r = 0) : checkD (putDe r) = 0 := checkD_put_ok (d := putDe r) rfl h rfl rfl
theorem doDs_takes_none : ∀ {rs : List Rn} {s : St}, s.1.length ≤ 300 → doDs s (rs.map takeDe) = none → 600 < s.2.length + (rs.flatMap atomsR).length
  | [], s, _, h => by cases h
  | r :: rs, s, hl, h => by
    have e : doDs s ((r :: rs).map takeDe) = if tooMuch (doDeed s (takeDe r)) = true then none else doDs (doDeed s (takeDe r)) (rs.map takeDe) := rfl
    have h1 : (doDeed s (takeDe r)).1 = takeA s.1 (marksN r.1 r.2.length) := by
      unfold doDeed marksD
      simp [takeDe]
    have h2 : (doDeed s (takeDe r)).2 = putGs s.2 (marksN r.1 r.2.length) := by
      unfold doDeed marksD
      simp [takeDe]
    have l1 : (doDeed s (takeDe r)).1.length ≤ 300 := by
      rw [h1]
      unfold takeA
      exact Nat.le_trans (List.length_filter_le _ _) hl
    have l2 : (doDeed s (takeDe r)).2.length ≤ s.2.length + r.2.length := by
      rw [h2]
      have := putGs_len (marksN r.1 r.2.length) s.2
      rwa [marksN_len] at this
    have l3 : ((r :: rs).flatMap atomsR).length = r.2.length + (rs.flatMap atomsR).length := by rw [List.flatMap_cons, List.length_append, atomsR_len]
    rw [e] at h
    split at h
    · rename_i hm
      unfold tooMuch at hm
      rw [Bool.or_eq_true] at hm
      rcases hm with hm | hm
      · have := of_decide_eq_true hm; omega
      · have := of_decide_eq_true hm; omega
    · have := doDs_takes_none l1 h
      omega
theorem back_facts {s : St} {k : Nat} {t : Tx} {site clock : Int} (h : putE s (k : Int) t site clock = 0) :
    ∃ T : St, allE s (putV s k t site clock) = 0 ∧ allV s (putV s k t site clock) = T ∧ cutE T (k : Int) (t.length : Int) = 0 ∧
      ((allE T (cutV T k t.length) = 0 ∧ (allV T (cutV T k t.length)).1 = s.1) ∨ (allE T (cutV T k t.length) = 2 ∧ allV T (cutV T k t.length) = ([], []) ∧ 600 < s.2.length + t.length)) := by
  obtain ⟨hf, ⟨k', hk1, hk⟩, _, _⟩ := putE_parts h
  obtain rfl : k = k' := by omega
  obtain ⟨fl, fc, fv, ff, fr, fa, fd⟩ := put_facts h
  have hd : ∀ d ∈ putV s k t site clock, checkD d = 0 := fun d hd => by
    rw [fv] at hd
    obtain ⟨r, hr, rfl⟩ := List.mem_map.1 hd
    exact checkD_putV (fr r hr)
  have hfT := doDs_fit hf hd fd
  have e1 : allE s (putV s k t site clock) = 0 := allE_ok.2 ⟨hf, hd, by rw [fd]; simp⟩
  refine ⟨_, e1, rfl, ?_⟩
  have e2 : allV s (putV s k t site clock) = (s.1.take k ++ putAs s k t site clock ++ s.1.drop k, s.2) := by
    unfold allV
    rw [if_pos e1, fd]; rfl
  rw [e2]
  generalize hT : ((s.1.take k ++ putAs s k t site clock ++ s.1.drop k, s.2) : St) = T at *
  have hl : T.1.length = s.1.length + t.length := by
    rw [← hT]
    simp only [List.length_append, List.length_take, List.length_drop]
    omega
  have e3 : cutE T (k : Int) (t.length : Int) = 0 := by
    unfold cutE
    rw [if_neg (by rw [checkS_fit.2 hfT]; simp)]
    have : insideB (k : Int) (t.length : Int) T.1.length = true := by
      unfold insideB
      simp
      omega
    rw [this]
    rfl
  refine ⟨e3, ?_⟩
  have hr := takes_right e3
  have hc : (cutL T k t.length).length ≤ t.length := by unfold cutL; rw [List.length_take]; omega
  have hV : cutV T k t.length = (runsA (cutL T k t.length)).map takeDe := by unfold cutV; rw [if_pos e3, Int.toNat_natCast, Int.toNat_natCast]
  cases hdo : doDs T (cutV T k t.length) with
  | none =>
    right
    have e4 : allE T (cutV T k t.length) = 2 := by
      unfold allE
      rw [if_neg (by rw [checkS_fit.2 hfT]; simp), if_neg (by rw [checkDL_ok.2 hr]; simp), if_pos hdo]
    refine ⟨e4, by unfold allV; rw [if_neg (by rw [e4]; simp)], ?_⟩
    rw [hV] at hdo
    have h1 := doDs_takes_none hfT.2.1 hdo
    rw [(runs_back (cutL_right (checkS_fit.2 hfT) _ _)).1] at h1
    have : T.2 = s.2 := by rw [← hT]
    rw [this] at h1
    omega
  | some u =>
    left
    have e4 : allE T (cutV T k t.length) = 0 := allE_ok.2 ⟨hfT, hr, by rw [hdo]; simp⟩
    refine ⟨e4, ?_⟩
    unfold allV
    rw [if_pos e4, hdo]
    obtain ⟨i, j, hi, hj, _, hu⟩ := cut_facts e3 hdo
    obtain rfl : i = k := by omega
    obtain rfl : j = t.length := by omega
    show u.1 = s.1
    rw [hu, ← hT]
    have hlt : (s.1.take i).length = i := by rw [List.length_take]; omega
    have hlm : (s.1.take i ++ putAs s i t site clock).length = i + t.length := by rw [List.length_append, hlt, fl]
    show ((s.1.take i ++ putAs s i t site clock) ++ s.1.drop i).take i ++ ((s.1.take i ++ putAs s i t site clock) ++ s.1.drop i).drop (i + t.length) = s.1
    rw [← hlm, List.drop_left, List.append_assoc, List.take_left' hlt, List.take_append_drop]
end Go.Proofs.YtfgfdohppgoajaaGreat
