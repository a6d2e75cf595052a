/- RunCut: a run cut in two has the atoms of both, and its atoms are one run: the walk. -/
import Derived.Test.YthkhkbjkbpgaoaaB10
import Derived.Test.YthkhkbjkbpgaoaaM1
set_option linter.unusedVariables false
set_option linter.unusedSimpArgs false
namespace Cp

theorem atomsR_len (r : Rn) : (atomsR r).length = r.2.length := by simp [atomsR]
theorem atomsR_cons (m : Mk) (s : UInt8) (u : Tx) : atomsR (m, s :: u) = (m, s) :: atomsR (afterM m 1, u) := by
  unfold atomsR
  simp only [List.length_cons, List.range_succ_eq_map, List.map_cons, List.map_map]
  congr 1
  · simp [afterM_zero]
  · refine List.map_congr_left (fun i _ => ?_)
    simp [afterM_add, Int.add_comm]
theorem atomsR_app : ∀ (t : Tx) (m : Mk) (u : Tx), atomsR (m, t ++ u) = atomsR (m, t) ++ atomsR (afterM m t.length, u)
  | [], m, u => by simp [afterM_zero]; rfl
  | s :: t, m, u => by
    rw [List.cons_append, atomsR_cons, atomsR_cons, atomsR_app t (afterM m 1) u, afterM_add, List.cons_append]
    simp [Int.add_comm]
theorem atomsR_one (m : Mk) (s : UInt8) : atomsR (m, [s]) = [(m, s)] := by rw [atomsR_cons]; rfl
theorem atomsR_snoc (m : Mk) (t : Tx) (s : UInt8) : atomsR (m, t ++ [s]) = atomsR (m, t) ++ [(afterM m t.length, s)] := by rw [atomsR_app, atomsR_one]
theorem checkR_ok {r : Rn} : checkR r = 0 ↔ checkM r.1 = 0 ∧ r.2 ≠ [] ∧ r.2.length ≤ 60 ∧ signsB r.2 = true ∧ checkM (afterM r.1 ((r.2.length : Int) - 1)) = 0 := by
  unfold checkR
  constructor
  · intro h
    by_cases h1 : checkM r.1 ≠ 0
    · rw [if_pos h1] at h; exact absurd h h1
    rw [if_neg h1] at h
    by_cases h2 : r.2 = []
    · rw [if_pos h2] at h; omega
    rw [if_neg h2] at h
    by_cases h3 : 60 < r.2.length
    · rw [if_pos h3] at h; omega
    rw [if_neg h3] at h
    by_cases h4 : signsB r.2 = false
    · rw [if_pos h4] at h; omega
    rw [if_neg h4] at h
    exact ⟨by omega, h2, by omega, by simpa using h4, (nextM_ok.1 h).2.2.2⟩
  · rintro ⟨h1, h2, h3, h4, h5⟩
    have hp := List.length_pos_iff.2 h2
    rw [if_neg (by omega), if_neg h2, if_neg (by omega), if_neg (by simp [h4])]
    exact nextM_ok.2 ⟨h1, by omega, by omega, h5⟩

/-- a mark goes on a run -/
def JoinR (r : Rn) (m : Mk) : Prop := r.2.length < 60 ∧ ordM (afterM r.1 r.2.length) m = 0
/-- no two runs side by side could be one -/
def Apart (q : List Rn) : Prop := ∀ (i : Nat) (r r' : Rn), q[i]? = some r → q[i + 1]? = some r' → ¬ JoinR r r'.1
theorem snoc_get {α : Type} {ys : List α} {y z : α} {i : Nat} (h : (ys ++ [y])[i]? = some z) : i < ys.length ∧ ys[i]? = some z ∨ i = ys.length ∧ z = y := by
  by_cases h1 : i < ys.length
  · rw [List.getElem?_append_left h1] at h; exact .inl ⟨h1, h⟩
  · rw [List.getElem?_append_right (by omega)] at h
    have h2 : i - ys.length = 0 := by
      obtain ⟨h3, _⟩ := List.getElem?_eq_some_iff.1 h
      have h4 : i - ys.length < 1 := h3
      omega
    rw [h2] at h
    exact .inr ⟨by omega, by simpa using h.symm⟩
theorem apart_set {ys : List Rn} {y y' : Rn} (h : Apart (ys ++ [y])) (e : y'.1 = y.1) : Apart (ys ++ [y']) := by
  intro i r r' h1 h2
  rcases snoc_get h1 with ⟨g1, g2⟩ | ⟨rfl, rfl⟩
  · have k1 : (ys ++ [y])[i]? = some r := by rw [List.getElem?_append_left g1]; exact g2
    rcases snoc_get h2 with ⟨g3, g4⟩ | ⟨g3, rfl⟩
    · exact h i r r' k1 (by rw [List.getElem?_append_left g3]; exact g4)
    · rw [e]; exact h i r y k1 (by rw [g3]; simp)
  · rcases snoc_get h2 with ⟨g3, _⟩ | ⟨g3, _⟩ <;> omega
theorem apart_add {ys : List Rn} {y z : Rn} (h : Apart (ys ++ [y])) (e : ¬ JoinR y z.1) : Apart (ys ++ [y] ++ [z]) := by
  intro i r r' h1 h2
  rcases snoc_get h2 with ⟨g1, g2⟩ | ⟨g1, rfl⟩
  · rcases snoc_get h1 with ⟨_, g4⟩ | ⟨g3, _⟩
    · exact h i r r' g4 g2
    · omega
  · have hi : i = ys.length := by simpa using g1
    subst hi
    have : y = r := by simpa using h1
    subst this; exact e
theorem apart_one (y : Rn) : Apart [y] := by
  intro i r r' _ h2
  simp at h2
def Inv (q : List Rn) (l : List At) : Prop := q.flatMap atomsR = l ∧ (∀ r ∈ q, checkR r = 0) ∧ Apart q
theorem checkR_one {a : At} (h1 : checkM a.1 = 0) (h2 : signB a.2 = true) : checkR (a.1, [a.2]) = 0 :=
  checkR_ok.2 ⟨h1, by simp, by simp, by simp [signsB, h2], by simp [afterM_zero, h1]⟩
theorem inv_step {q : List Rn} {l : List At} {a : At} (h : Inv q l) (h1 : checkM a.1 = 0) (h2 : signB a.2 = true) : Inv (runStep q a) (l ++ [a]) := by
  obtain ⟨e, hc, ha⟩ := h
  by_cases hq : q = []
  · subst hq
    have : l = [] := by simpa using e.symm
    subst this
    refine ⟨?_, ?_, apart_one _⟩
    · show [(a.1, [a.2])].flatMap atomsR = [a]
      simp [atomsR_one]
    · intro r hr
      have : r = (a.1, [a.2]) := by simpa [runStep] using hr
      subst this; exact checkR_one h1 h2
  · obtain ⟨ys, y, rfl⟩ := snoc_of hq
    have hl : (ys ++ [y]).getLast? = some y := by simp
    have hy := hc y (by simp)
    obtain ⟨c1, c2, c3, c4, c5⟩ := checkR_ok.1 hy
    unfold runStep
    rw [hl]
    simp only
    by_cases hj : y.2.length < 60 ∧ ordM (afterM y.1 y.2.length) a.1 = 0
    · rw [if_pos hj]
      have hm := ordM_zero.1 hj.2
      rw [List.dropLast_concat]
      refine ⟨?_, ?_, apart_set ha rfl⟩
      · rw [← e, List.flatMap_append, List.flatMap_append, List.append_assoc]
        congr 1
        obtain ⟨m, t⟩ := y
        simp only [List.flatMap_cons, List.flatMap_nil, List.append_nil]
        rw [atomsR_snoc]
        simp only at hm
        rw [hm]
      · intro r hr
        rcases List.mem_append.1 hr with hr | hr
        · exact hc r (by simp [hr])
        · have : r = (y.1, y.2 ++ [a.2]) := by simpa using hr
          subst this
          refine checkR_ok.2 ⟨c1, by simp, by simp; omega, by rw [signsB_app, c4]; simp [signsB, h2], ?_⟩
          have : ((y.2 ++ [a.2]).length : Int) - 1 = y.2.length := by simp
          simp only [this, hm]; exact h1
    · rw [if_neg hj]
      refine ⟨?_, ?_, apart_add ha hj⟩
      · rw [List.flatMap_append, e]; simp [atomsR_one]
      · intro r hr
        rcases List.mem_append.1 hr with hr | hr
        · exact hc r hr
        · have : r = (a.1, [a.2]) := by simpa using hr
          subst this; exact checkR_one h1 h2
theorem inv_fold : ∀ (l : List At) (q : List Rn) (p : List At), Inv q p → (∀ a ∈ l, checkM a.1 = 0 ∧ signB a.2 = true) → Inv (l.foldl runStep q) (p ++ l)
  | [], q, p, h, _ => by simpa using h
  | a :: l, q, p, h, hl => by
    have h1 := hl a (by simp)
    have := inv_fold l (runStep q a) (p ++ [a]) (inv_step h h1.1 h1.2) (fun x hx => hl x (by simp [hx]))
    simpa using this
theorem checkA_right {l : List At} (h : checkA l = 0) : ∀ a ∈ l, checkM a.1 = 0 ∧ signB a.2 = true := by
  unfold checkA at h
  by_cases h1 : 300 < l.length
  · rw [if_pos h1] at h; omega
  · rw [if_neg h1] at h; exact (checkAF_ok.1 h).1
/-- atoms of runs are the atoms that they were -/
theorem runs_back {l : List At} (h : checkA l = 0) : Inv (runsA l) l := by
  have := inv_fold l [] [] ⟨rfl, by simp, by intro i r r' h1; simp at h1⟩ (checkA_right h)
  rw [List.nil_append] at this; exact this
theorem sortedA_idx : ∀ {l : List At}, (∀ (i : Nat) (a b : At), l[i]? = some a → l[i + 1]? = some b → ordM a.1 b.1 = -1) → SortedA l
  | [], _ => trivial
  | [_], _ => trivial
  | a :: b :: r, h => ⟨h 0 a b rfl rfl, sortedA_idx (fun i x y h1 h2 => h (i + 1) x y (by simpa using h1) (by simpa using h2))⟩
theorem atomsR_get {r : Rn} {i : Nat} {a : At} (h : (atomsR r)[i]? = some a) : ∃ h : i < r.2.length, a = (afterM r.1 i, r.2[i]) := by
  have hi : i < r.2.length := by
    obtain ⟨h1, _⟩ := List.getElem?_eq_some_iff.1 h
    rwa [atomsR_len] at h1
  refine ⟨hi, ?_⟩
  unfold atomsR at h
  rw [List.getElem?_map, List.getElem?_range hi] at h
  simpa [hi] using h.symm
/-- the atoms of a run are right -/
theorem atoms_right {r : Rn} (h : checkR r = 0) : checkA (atomsR r) = 0 := by
  obtain ⟨c1, c2, c3, c4, c5⟩ := checkR_ok.1 h
  have hm : r.1.1 ≠ [] := (checkM_ok.1 c1).2.1
  unfold checkA
  rw [if_neg (by rw [atomsR_len]; omega)]
  refine checkAF_ok.2 ⟨?_, sortedA_idx ?_, by simp⟩
  · intro a ha
    obtain ⟨i, hi⟩ := List.getElem?_of_mem ha
    obtain ⟨h1, rfl⟩ := atomsR_get hi
    refine ⟨check_between c1 c5 (by omega) (by omega), ?_⟩
    exact List.all_eq_true.1 c4 _ (List.getElem_mem h1)
  · intro i a b h1 h2
    obtain ⟨_, rfl⟩ := atomsR_get h1
    obtain ⟨_, rfl⟩ := atomsR_get h2
    exact afterM_lt hm (by omega)
theorem runsA_snoc (l : List At) (a : At) : runsA (l ++ [a]) = runStep (runsA l) a := by simp [runsA]
theorem runs_oneL : ∀ (n : Nat) (m : Mk) (t : Tx), t.length = n + 1 → n < 60 → runsA (atomsR (m, t)) = [(m, t)]
  | 0, m, t, h, _ => by
    obtain ⟨s, rfl⟩ := List.length_eq_one_iff.1 h
    rw [atomsR_one]; rfl
  | n + 1, m, t, h, hn => by
    have ht : t ≠ [] := by rintro rfl; simp at h
    obtain ⟨u, s, rfl⟩ := snoc_of ht
    have hu : u.length = n + 1 := by simpa using h
    rw [atomsR_snoc, runsA_snoc, runs_oneL n m u hu (by omega)]
    unfold runStep
    simp only [List.getLast?_singleton]
    rw [if_pos ⟨by omega, ordM_self _⟩]
    rfl
/-- the atoms of a run are one run -/
theorem runs_one {r : Rn} (h : checkR r = 0) : runsA (atomsR r) = [r] := by
  obtain ⟨_, c2, c3, _, _⟩ := checkR_ok.1 h
  have hp := List.length_pos_iff.2 c2
  exact runs_oneL (r.2.length - 1) r.1 r.2 (by omega) (by omega)
/-- a run cut in two -/
theorem run_cut {r : Rn} (h : checkR r = 0) {c : Nat} (h1 : 1 ≤ c) (h2 : c < r.2.length) :
    (nextM r.1 c).2 = 0 ∧ (nextM r.1 c).1 = afterM r.1 c ∧ checkR (r.1, r.2.take c) = 0 ∧ checkR (afterM r.1 c, r.2.drop c) = 0 ∧
      atomsR (r.1, r.2.take c) ++ atomsR (afterM r.1 c, r.2.drop c) = atomsR r := by
  obtain ⟨c1, c2, c3, c4, c5⟩ := checkR_ok.1 h
  have hm : checkM (afterM r.1 c) = 0 := check_between c1 c5 (by omega) (by omega)
  have hn : (nextM r.1 c).2 = 0 := nextM_ok.2 ⟨c1, by omega, by omega, hm⟩
  have hs : signsB (r.2.take c) = true ∧ signsB (r.2.drop c) = true := by
    have : signsB (r.2.take c ++ r.2.drop c) = true := by rw [List.take_append_drop]; exact c4
    rw [signsB_app, Bool.and_eq_true] at this; exact this
  have hl : (r.2.take c).length = c := by rw [List.length_take]; omega
  refine ⟨hn, nextM_val hn, checkR_ok.2 ⟨c1, ?_, ?_, hs.1, ?_⟩, checkR_ok.2 ⟨hm, ?_, ?_, hs.2, ?_⟩, ?_⟩
  · intro e; have h9 : (r.2.take c).length = 0 := by simp only at e; rw [e]; rfl
    omega
  · simp only; omega
  · simp only [hl]; exact check_between c1 c5 (by omega) (by omega)
  · intro e; have h9 : (r.2.drop c).length = 0 := by simp only at e; rw [e]; rfl
    rw [List.length_drop] at h9; omega
  · simp only [List.length_drop]; omega
  · simp only [List.length_drop, afterM_add]
    rw [show (c : Int) + (((r.2.length - c : Nat) : Int) - 1) = (r.2.length : Int) - 1 by omega]; exact c5
  · have := atomsR_app (r.2.take c) r.1 (r.2.drop c)
    rw [List.take_append_drop, hl] at this
    exact this.symm

end Cp
namespace Go.Proofs.Ythkhkbjkbpgaoaa
open Go Go.RowKit Go.BigFrame Cp

theorem ro_runs {F : Nat → Prop} {w : World} {v : Value} {r : Rn} (h : checkR r = 0) (k : RSl RAt 3 F w v (atomsR r)) : Calls Try.prog 40 #[v] w (IsRunsE [r] 0 w) := by
  have h1 := runRuns_any k
  rw [atoms_right h, if_pos rfl, runs_one h] at h1
  exact h1
theorem ro_atoms {F : Nat → Prop} {w : World} {cs : List Value} {r : Rn} (h : checkR r = 0) (k : RRn F w cs r) : Calls Try.prog 39 #[.agg cs.toArray] w (IsAtomsE (atomsR r) 0 w) := by
  have h1 := runAtoms_any k
  rw [h, if_pos rfl] at h1
  exact h1
theorem ex_take (s : ByteArray) (n : Nat) : (s.extract 0 n).data.toList = s.data.toList.take n := by
  simp [ByteArray.data_extract, List.extract_eq_take_drop]
theorem ex_drop (s : ByteArray) (n : Nat) : (s.extract n s.size).data.toList = s.data.toList.drop n := by
  simp [ByteArray.data_extract, List.extract_eq_take_drop]
  exact List.take_of_length_le (by simp)
theorem rtx_take {s : ByteArray} {n : Nat} (h : s.size ≤ 60) : RTx (.string (s.extract 0 n)) (s.data.toList.take n) := by
  rw [← ex_take]
  exact rtx_s (by rw [ByteArray.size_extract]; omega)
theorem rtx_drop {s : ByteArray} {n : Nat} (h : s.size ≤ 60) : RTx (.string (s.extract n s.size)) (s.data.toList.drop n) := by
  rw [← ex_drop]
  exact rtx_s (by rw [ByteArray.size_extract]; omega)
theorem wpList_appAllG {α : Type} {P : Program} {ops : Array Oper} {rest : List Oper} {o : Oper} {a : Act} {Q : Exit → Act → World → Prop} {w : World} {R : Rd α} (g : Cp.Good R) (hw : Region.wanted o (yielded ops a.tmps) = true) (s x : Operand) (t : TypeId)
    (ho : o.op = .call { callee := .builtin .append, args := #[s, x], argTypes := #[t, t] })
    (base : Nat) (e : TypeId) (i : TypeInfo) (z : Value) (sz bytes : Nat) (ht : P.underlying t = some (.slice e)) (hi : P.info? e = some i) (hz : i.zero = some z)
    (hsize : i.size = sz) (hby : i.bytes = bytes) (hzs : z.cells.size = sz) (hsz : 0 < sz)
    {F G : Nat → Prop} (v : Value) (l : List α) (hs : a.eval s = v) (hown : OSl R sz e base F w v l)
    (u : Value) (m : List α) (hx : a.eval x = u) (hm : RSl R sz G w u m) (h1 : ∀ F w cs y, R F w cs y → ∀ u ∈ cs, u.oneCell' = true) (hG : ∀ k, G k → k < w.heap.size → F k ∧ some k ≠ v.ownBlock)
    (h63 : l.length + m.length ≤ maxLen) (hbytes : (l.length + m.length) * bytes ≤ 140737488355328) (hbase : base ≤ w.heap.size)
    (h : ∀ v' w', OSl R sz e base F w' v' (l ++ m) → w.grownBy w' v.ownBlock → (v'.ownBlock = v.ownBlock ∨ v'.ownBlock = some w.heap.size) → wpList P ops Q rest (a.put o.dst v') w') : wpList P ops Q (o :: rest) a w :=
  wpList_step fun _ hK => by
    rw [if_pos hw]
    exact wp_appAll g s x t ho base e i z sz bytes ht hi hz hsize hby hzs hsz v l hs hown u m hx hm h1 hG h63 hbytes hbase fun v' w' h2 h3 h4 => hK _ _ (h v' w' h2 h3 h4)
theorem text_eq {p p' : List Stp} {d d' : Int} {s s' : ByteArray} (h : some ((p, d), s.data.toList) = some ((p', d'), s'.data.toList)) : p = p' ∧ d = d' ∧ s = s' := by
  injection h with h
  injection h with h1 h2
  injection h1 with h3 h4
  exact ⟨h3, h4, bytes_eq h2⟩
theorem len60 {a b : Nat} (h : a ≤ 60) (k : b ≤ 60) : a + b ≤ maxLen := Nat.le_trans (by omega : a + b ≤ 360) (by unfold maxLen; decide)
theorem byt60 {a b : Nat} (h : a ≤ 60) (k : b ≤ 60) : (a + b) * 40 ≤ 140737488355328 := by omega
set_option maxRecDepth 100000 in
set_option maxHeartbeats 4000000 in
theorem runCut_any {F : Nat → Prop} {w : World} {cs : List Value} {r : Rn} {n : Int} (h : RRn F w cs r) (hn : I64 n) :
    Calls Try.prog 13 #[.agg cs.toArray, .int .i64 n] w fun e w' => e = .returned (.bool true) ∧ Ext w w' := by
  have HAT := Lib.hid (fun (W : World) (hx : Ext w W) => runAtoms_any (gRn.ext h hx))
  obtain ⟨v0, u0, rfl, hl, hi, hu⟩ := h
  obtain ⟨⟨p, d⟩, t⟩ := r
  simp only at hl hi hu HAT ⊢
  obtain ⟨s, rfl, rfl, hs⟩ := tx_bytes hu
  have HPL := Lib.hid (fun (W : World) (hx : Ext w W) => hl.ext gStp hx)
  obtain ⟨a0, n0, c0, rfl⟩ := hl.slice
  obtain rfl : n0 = p.length := hl.len.1
  have HPI := Lib.hid hi
  clear hl hi hu
  obtain ⟨i0, hi0, hz0, hz1', hz2⟩ := info_parts info_atom
  have HJ := Lib.hid hi0
  have HZ0 := Lib.hid hz0
  have HZ1 := Lib.hid hz1'
  have HZ2 := Lib.hid hz2
  clear hi0 hz0 hz1' hz2
  by_cases h0 : checkR ((p, d), s.data.toList) = 0
  · rw [if_pos h0, h0] at HAT
    have hsl : s.data.toList.length = s.size := by simp
    have hs60 : s.size ≤ 60 := by have := (checkR_ok.1 h0).2.2.1; simpa using this
    have HCUT := Lib.hid (fun (c : Nat) (h1 : 1 ≤ c) (h2 : c < s.size) => run_cut h0 h1 (show c < s.data.toList.length by rw [hsl]; exact h2))
    have HRU := Lib.hid (fun (W : World) (G : Nat → Prop) (u : Value) (hu : RSl RAt 3 G W u (atomsR ((p, d), s.data.toList))) => ro_runs h0 hu)
    have hal : (atomsR ((p, d), s.data.toList)).length ≤ 60 := by rw [atomsR_len]; simp; exact hs60
    generalize atomsR ((p, d), s.data.toList) = al at *
    have H0 := Lib.hid h0
    clear h0
    go_enter Try.func13, Try.ntmps13
    go_wp2_with (first
      | (go_at_call 39; go_must ((with_reducible refine (HAT.out _ (by repeat (first | (with_reducible exact ext_refl _) | (with_reducible assumption) | (with_reducible refine ext_drew ?_) | (with_reducible refine ext_drewN ?_ _) | (with_reducible refine ext_alloc ?_ _) | (with_reducible refine ext_set ?_ (by first | omega | (simp <;> omega)) _) | (with_reducible refine ext_trans ?_ (by with_reducible assumption))))).mono ?_); rintro e w1 ⟨v1, rfl, hv1, hx1⟩; obtain ⟨a1, n1, c1, rfl⟩ := hv1.slice; obtain rfl : n1 = al.length := hv1.len.1; have HV1 := Lib.hid hv1; clear hv1; have hz1 := hx1.size; (try simp at hz1); have hb1_0 : w.heap.size < w1.heap.size := (by omega); have pc0 := (hx1.cells (w.heap.size) (0) (by first | omega | (simp <;> omega))).trans (show _ = some (.slice a0 p.length c0) by first | assumption | go_simp); have pc1 := (hx1.cells (w.heap.size) (1) (by first | omega | (simp <;> omega))).trans (show _ = some (.int .i64 d) by first | assumption | go_simp); have pc2 := (hx1.cells (w.heap.size) (2) (by first | omega | (simp <;> omega))).trans (show _ = some (.string s) by first | assumption | go_simp)))
      | (go_at_call 45; go_must ((with_reducible refine (runBegun_any _).mono ?_); rintro e w2 ⟨rfl, hx2⟩; have hz2 := hx2.size; (try simp at hz2); have hb2_0 : w.heap.size < w2.heap.size := (by omega); have qc0 := (hx2.cells (w.heap.size) (0) (by first | omega | (simp <;> omega))).trans (show _ = some (.slice a0 p.length c0) by first | assumption | go_simp); have qc1 := (hx2.cells (w.heap.size) (1) (by first | omega | (simp <;> omega))).trans (show _ = some (.int .i64 d) by first | assumption | go_simp); have qc2 := (hx2.cells (w.heap.size) (2) (by first | omega | (simp <;> omega))).trans (show _ = some (.string s) by first | assumption | go_simp)))
      | (go_at_call 32; go_must ((with_reducible refine (markBegun_any _).mono ?_); rintro e w3 ⟨rfl, hx3⟩; have hz3 := hx3.size; (try simp at hz3); have hb3_0 : w.heap.size < w3.heap.size := (by omega); have rc0 := (hx3.cells (w.heap.size) (0) (by first | omega | (simp <;> omega))).trans (show _ = some (.slice a0 p.length c0) by first | assumption | go_simp); have rc1 := (hx3.cells (w.heap.size) (1) (by first | omega | (simp <;> omega))).trans (show _ = some (.int .i64 d) by first | assumption | go_simp); have rc2 := (hx3.cells (w.heap.size) (2) (by first | omega | (simp <;> omega))).trans (show _ = some (.string s) by first | assumption | go_simp)))
      | (go_at_call 40; go_must ((with_reducible refine (HRU.out _ _ _ (HV1.out.ext gAt (by repeat (first | (with_reducible exact ext_refl _) | (with_reducible assumption) | (with_reducible refine ext_drew ?_) | (with_reducible refine ext_drewN ?_ _) | (with_reducible refine ext_alloc ?_ _) | (with_reducible refine ext_set ?_ (by first | omega | (simp <;> omega)) _) | (with_reducible refine ext_trans ?_ (by with_reducible assumption)))))).mono ?_); rintro e w4 ⟨v4, rfl, hv4, hx4⟩; obtain ⟨a4, n4, c4, rfl⟩ := hv4.slice; obtain rfl : n4 = 1 := hv4.len.1; have HV4 := Lib.hid hv4; clear hv4; have hz4 := hx4.size; (try simp at hz4); have hb4_0 : w.heap.size < w4.heap.size := (by omega); have sc0 := (hx4.cells (w.heap.size) (0) (by first | omega | (simp <;> omega))).trans (show _ = some (.slice a0 p.length c0) by first | assumption | go_simp); have sc1 := (hx4.cells (w.heap.size) (1) (by first | omega | (simp <;> omega))).trans (show _ = some (.int .i64 d) by first | assumption | go_simp); have sc2 := (hx4.cells (w.heap.size) (2) (by first | omega | (simp <;> omega))).trans (show _ = some (.string s) by first | assumption | go_simp))))
    obtain ⟨b4, o4, p4, d4, s4, ap4, cp4, e5, hb4, e4, hs4, ic4, hp4, z0, z1, z2⟩ := run_at (i := 0) HV4.out (by simp)
    subst e5
    obtain ⟨rfl, rfl, rfl⟩ := text_eq (show some ((p, d), s.data.toList) = some ((p4, d4), s4.data.toList) from e4)
    simp only [Nat.zero_mul, Nat.add_zero] at z0 z1 z2
    have HPX := Lib.hid hp4
    clear e4 hs4 ic4 hp4
    refine wp_name (fun W5 eW5 => ?_)
    have k0 : W5.cell? ⟨w.heap.size, 0, none⟩ = some (.slice a0 p.length c0) := by rw [eW5]; go_simp
    have k1 : W5.cell? ⟨w.heap.size, 1, none⟩ = some (.int .i64 d) := by rw [eW5]; go_simp
    have k2 : W5.cell? ⟨w.heap.size, 2, none⟩ = some (.string s) := by rw [eW5]; go_simp
    have j0 : W5.cell? ⟨b4, o4, none⟩ = some (.slice ap4 p.length cp4) := by rw [eW5]; go_simp
    have j1 : W5.cell? ⟨b4, o4 + 1, none⟩ = some (.int .i64 d) := by rw [eW5]; go_simp
    have j2 : W5.cell? ⟨b4, o4 + 2, none⟩ = some (.string s) := by rw [eW5]; go_simp
    have zW5_0 : w.heap.size < W5.heap.size := by rw [eW5]; first | assumption | omega | (simp <;> omega)
    have zW5_1 : b4 < W5.heap.size := by rw [eW5]; first | assumption | omega | (simp <;> omega)
    have hw5 : Ext w4 W5 := by rw [eW5]; exact (by repeat (first | (with_reducible exact ext_refl _) | (with_reducible assumption) | (with_reducible refine ext_drew ?_) | (with_reducible refine ext_drewN ?_ _) | (with_reducible refine ext_alloc ?_ _) | (with_reducible refine ext_set ?_ (by first | omega | (simp <;> omega)) _) | (with_reducible refine ext_trans ?_ (by with_reducible assumption))))
    clear eW5
    have HWW5 := Lib.hid (show Ext w W5 from ext_trans (by repeat (first | (with_reducible exact ext_refl _) | (with_reducible assumption) | (with_reducible refine ext_drew ?_) | (with_reducible refine ext_drewN ?_ _) | (with_reducible refine ext_alloc ?_ _) | (with_reducible refine ext_set ?_ (by first | omega | (simp <;> omega)) _) | (with_reducible refine ext_trans ?_ (by with_reducible assumption)))) hw5)
    have HSR := Lib.hid (fun (W : World) (hx : Ext W5 W) => sameRun_any (rrn_of (HPX.out.ext gStp (ext_trans hw5 hx)) HPI.out (rtx_s (s := s) (by omega))) (rrn_of (HPL.out _ (ext_trans HWW5.out hx)) HPI.out (rtx_s (s := s) (by omega))))
    refine wp_region_later fol (by kernel_rfl) (fun hlater => ?_)
    repeat (go_big_quiet_step ((first
        | (go_at_call 50; (with_reducible exact later_of (HSR.out _ (Later.ext _)))))))
    refine wpQuiet_nil ?_
    rintro w6 ⟨⟨w6x, hx6⟩, rfl⟩
    clear hlater
    have f0 := (hx6.cells w.heap.size 0 (by omega)).trans k0
    have f1 := (hx6.cells w.heap.size 1 (by omega)).trans k1
    have f2 := (hx6.cells w.heap.size 2 (by omega)).trans k2
    have hw6 : Ext w w6 := ext_trans HWW5.out hx6
    have HW6 := Lib.hid hw6
    have HV16 := Lib.hid (HV1.out.ext gAt (show Ext w1 w6 from ext_trans (ext_trans (by repeat (first | (with_reducible exact ext_refl _) | (with_reducible assumption) | (with_reducible refine ext_drew ?_) | (with_reducible refine ext_drewN ?_ _) | (with_reducible refine ext_alloc ?_ _) | (with_reducible refine ext_set ?_ (by first | omega | (simp <;> omega)) _) | (with_reducible refine ext_trans ?_ (by with_reducible assumption)))) hw5) hx6))
    have hz6 := hw6.size
    have hb6 : w.heap.size < w6.heap.size := by have := hx6.size; omega
    clear hx1 hx2 hx3 hx4 hx6 hw5 HSR HRU HV1 HV4 HPX
    by_cases g1 : n < 1
    · have t1 : decide (n < 1) = true := decide_eq_true g1
      clear g1
      go_wp2_with fail
      go_ret
      exact ⟨rfl, HW6.out⟩
    · have t1 : decide (n < 1) = false := decide_eq_false g1
      by_cases g2 : (s.size : Int) ≤ n
      · have t2 : decide ((s.size : Int) ≤ n) = true := decide_eq_true g2
        clear g1 g2
        go_wp2_with fail
        go_ret
        exact ⟨rfl, HW6.out⟩
      · have t2 : decide ((s.size : Int) ≤ n) = false := decide_eq_false g2
        obtain ⟨c, rfl⟩ : ∃ c : Nat, n = (c : Int) := ⟨n.toNat, by omega⟩
        have hc1 : 1 ≤ c := by omega
        have hc2 : c < s.size := by omega
        obtain ⟨k1, k2, k3, k4, k5⟩ := HCUT.out c hc1 hc2
        have HNX := Lib.hid (fun (W : World) (hx : Ext w W) => (show Calls Try.prog 30 #[.agg #[.slice a0 p.length c0, .int .i64 d], .int .i64 (c : Int)] W (IsMarkE (afterM (p, d) c) 0 W) by have h9 := next_any (k := (c : Int)) (rmk_of' (HPL.out W hx) HPI.out); rw [k1, k2] at h9; exact h9))
        have HA1 := Lib.hid (fun (W : World) (hx : Ext w W) => ro_atoms k3 (rrn_of (HPL.out W hx) HPI.out (rtx_take hs60)))
        have hla : (atomsR ((p, d), s.data.toList.take c)).length ≤ 60 := by rw [atomsR_len]; simp only [List.length_take]; omega
        have hlb : (atomsR (afterM (p, d) c, s.data.toList.drop c)).length ≤ 60 := by rw [atomsR_len]; simp only [List.length_drop]; omega
        generalize afterM (p, d) c = nm at *
        obtain ⟨nl, nc⟩ := nm
        have HA2 := Lib.hid (fun (W : World) (G : Nat → Prop) (v : Value) (hv : RSl RStp 2 G W v nl) (hi : I64 nc) => ro_atoms k4 (rrn_of hv hi (rtx_drop hs60)))
        have HK5 := Lib.hid k5
        generalize atomsR ((p, d), s.data.toList.take c) = l1 at *
        generalize atomsR ((nl, nc), s.data.toList.drop c) = l2 at *
        have q0 : (0 : Int) ≤ (c : Int) := Int.natCast_nonneg c
        have q1 : (c : Int) ≤ (s.size : Int) := by omega
        have q2 : ¬ (c : Int) < 0 := by omega
        have q3 : ¬ (s.size : Int) < (c : Int) := by omega
        have q4 : ¬ s.size < c := by omega
        have q5 : c ≤ s.size := by omega
        clear k1 k2 k3 k4 k5 g1 g2 hn
        go_wp2_with (first
          | (go_at_call 30; go_must ((with_reducible refine (HNX.out _ (by repeat (first | (with_reducible exact ext_refl _) | (with_reducible assumption) | (with_reducible refine ext_drew ?_) | (with_reducible refine ext_drewN ?_ _) | (with_reducible refine ext_alloc ?_ _) | (with_reducible refine ext_set ?_ (by first | omega | (simp <;> omega)) _) | (with_reducible refine ext_trans ?_ (by with_reducible assumption))))).mono ?_); rintro e w7 ⟨cs7, rfl, hm7, hx7⟩; obtain ⟨v7, rfl, hv7, hi7⟩ := hm7; obtain ⟨a7, n7, c7, rfl⟩ := hv7.slice; obtain rfl : n7 = nl.length := hv7.len.1; have HV7 := Lib.hid hv7; have HI7 := Lib.hid hi7; clear hv7 hi7; have hz7 := hx7.size; (try simp at hz7); have hb7_0 : w.heap.size < w7.heap.size := (by omega); have xc0 := (hx7.cells (w.heap.size) (0) (by first | omega | (simp <;> omega))).trans (show _ = some (.slice a0 p.length c0) by first | assumption | go_simp); have xc1 := (hx7.cells (w.heap.size) (1) (by first | omega | (simp <;> omega))).trans (show _ = some (.int .i64 d) by first | assumption | go_simp); have xc2 := (hx7.cells (w.heap.size) (2) (by first | omega | (simp <;> omega))).trans (show _ = some (.string s) by first | assumption | go_simp); have hwn : ¬ w.heap.size = w7.heap.size := (by omega); have hwn' : ¬ w7.heap.size = w.heap.size := (by omega))))
        go_region_held3 (fun W => W.cell? ⟨w.heap.size, 0, none⟩ = some (.slice a0 p.length c0) ∧ W.cell? ⟨w.heap.size, 1, none⟩ = some (.int .i64 d) ∧ W.cell? ⟨w.heap.size, 2, none⟩ = some (.string s))
          (first | go_keep | (refine ⟨?_, ?_, ?_⟩ <;> assumption))
          (first
            | (go_at_call 39; go_must ((with_reducible refine (HA1.out _ (by repeat (first | (with_reducible exact ext_refl _) | (with_reducible assumption) | (with_reducible refine ext_drew ?_) | (with_reducible refine ext_drewN ?_ _) | (with_reducible refine ext_alloc ?_ _) | (with_reducible refine ext_set ?_ (by first | omega | (simp <;> omega)) _) | (with_reducible refine ext_trans ?_ (by with_reducible assumption))))).mono ?_); rintro e w8 ⟨v8, rfl, hv8, hx8⟩; obtain ⟨a8, n8, c8, rfl⟩ := hv8.slice; have HV8 := Lib.hid (RSl.more (F := fun k => _) (G := fun k => k < w8.heap.size) gAt (fun _ _ hk => hk) hv8); clear hv8; have hz8 := hx8.size; (try simp at hz8); have hb8_0 : w.heap.size < w8.heap.size := (by omega); have hb8_1 : w7.heap.size < w8.heap.size := (by omega); have yc0 := (hx8.cells (w.heap.size) (0) (by first | omega | (simp <;> omega))).trans (show _ = some (.slice a0 p.length c0) by first | assumption | go_simp); have yc1 := (hx8.cells (w.heap.size) (1) (by first | omega | (simp <;> omega))).trans (show _ = some (.int .i64 d) by first | assumption | go_simp); have yc2 := (hx8.cells (w.heap.size) (2) (by first | omega | (simp <;> omega))).trans (show _ = some (.string s) by first | assumption | go_simp); have yc3 := (hx8.cells (w7.heap.size) (0) (by first | omega | (simp <;> omega))).trans (show _ = some (.slice a7 nl.length c7) by first | assumption | go_simp); have yc4 := (hx8.cells (w7.heap.size) (1) (by first | omega | (simp <;> omega))).trans (show _ = some (.int .i64 nc) by first | assumption | go_simp))))
        all_goals go_wp2_with fail
        go_region_held3 (fun W => W.cell? ⟨w.heap.size, 2, none⟩ = some (.string s) ∧ W.cell? ⟨w7.heap.size, 0, none⟩ = some (.slice a7 nl.length c7) ∧ W.cell? ⟨w7.heap.size, 1, none⟩ = some (.int .i64 nc))
          (first | go_keep | (refine ⟨?_, ?_, ?_⟩ <;> assumption))
          (first
            | (go_at_call 39; go_must ((with_reducible refine (HA2.out _ _ _ (HV7.out.ext gStp (by repeat (first | (with_reducible exact ext_refl _) | (with_reducible assumption) | (with_reducible refine ext_drew ?_) | (with_reducible refine ext_drewN ?_ _) | (with_reducible refine ext_alloc ?_ _) | (with_reducible refine ext_set ?_ (by first | omega | (simp <;> omega)) _) | (with_reducible refine ext_trans ?_ (by with_reducible assumption))))) HI7.out).mono ?_); rintro e w9 ⟨v9, rfl, hv9, hx9⟩; obtain ⟨a9, n9, c9, rfl⟩ := hv9.slice; have HV9 := Lib.hid (RSl.more (F := fun k => _) (G := fun k => k < w9.heap.size) gAt (fun _ _ hk => hk) hv9); clear hv9; have hz9 := hx9.size; (try simp at hz9); have hb9_0 : w.heap.size < w9.heap.size := (by omega); have hb9_1 : w7.heap.size < w9.heap.size := (by omega); have zc0 := (hx9.cells (w.heap.size) (0) (by first | omega | (simp <;> omega))).trans (show _ = some (.slice a0 p.length c0) by first | assumption | go_simp); have zc1 := (hx9.cells (w.heap.size) (1) (by first | omega | (simp <;> omega))).trans (show _ = some (.int .i64 d) by first | assumption | go_simp); have zc2 := (hx9.cells (w.heap.size) (2) (by first | omega | (simp <;> omega))).trans (show _ = some (.string s) by first | assumption | go_simp); have zc3 := (hx9.cells (w7.heap.size) (0) (by first | omega | (simp <;> omega))).trans (show _ = some (.slice a7 nl.length c7) by first | assumption | go_simp); have zc4 := (hx9.cells (w7.heap.size) (1) (by first | omega | (simp <;> omega))).trans (show _ = some (.int .i64 nc) by first | assumption | go_simp))))
        all_goals have HAP1 : True := trivial
        all_goals go_wp2_with (first
          | (at_builtin; (clear HAP1); go_must (refine wpList_appAllG gAt (by rfl) (.tmp 94) (.tmp 95) 37 rfl _ 52 i0 _ 3 40 Try.underlying37 HJ.out HZ0.out HZ1.out HZ2.out rfl (by omega) (F := fun _ => True) (G := fun k => k < w9.heap.size) _ [] rfl osl_new (.slice a8 n8 c8) l1 rfl (RSl.more gAt (fun k hk _ => (show k < w9.heap.size by omega)) (HV8.out.ext gAt (by repeat (first | (with_reducible exact ext_refl _) | (with_reducible assumption) | (with_reducible refine ext_drew ?_) | (with_reducible refine ext_drewN ?_ _) | (with_reducible refine ext_alloc ?_ _) | (with_reducible refine ext_set ?_ (by first | omega | (simp <;> omega)) _) | (with_reducible refine ext_trans ?_ (by with_reducible assumption)))))) one_at (fun k hk _ => ⟨trivial, ne_own (by first | exact hk | (simp <;> omega))⟩) (len60 (by simp) hla) (byt60 (by simp) hla) (by simp) ?_; intro v10 w10 hown10 hg10 hat10; obtain ⟨a10, n10, c10, rfl⟩ := osl_slice hown10; have HL10 := Lib.hid (osl_lt hown10); have hx10 : Ext w9 w10 := ext_grow (by repeat (first | (with_reducible exact ext_refl _) | (with_reducible assumption) | (with_reducible refine ext_drew ?_) | (with_reducible refine ext_drewN ?_ _) | (with_reducible refine ext_alloc ?_ _) | (with_reducible refine ext_set ?_ (by first | omega | (simp <;> omega)) _) | (with_reducible refine ext_trans ?_ (by with_reducible assumption)))) hg10 (fun k hk => (by have := own_eq hk; (try simp at this); omega)); have hz10 := hx10.size; have HO10 := Lib.hid hown10; clear hown10 hg10 hat10))
          | (at_builtin; go_must (refine wpList_appAllG gAt (by rfl) (.tmp 96) (.tmp 97) 37 rfl _ 52 i0 _ 3 40 Try.underlying37 HJ.out HZ0.out HZ1.out HZ2.out rfl (by omega) (F := fun _ => True) (G := fun k => k < w9.heap.size) _ _ rfl HO10.out (.slice a9 n9 c9) l2 rfl (HV9.out.ext gAt (by repeat (first | (with_reducible exact ext_refl _) | (with_reducible assumption) | (with_reducible refine ext_drew ?_) | (with_reducible refine ext_drewN ?_ _) | (with_reducible refine ext_alloc ?_ _) | (with_reducible refine ext_set ?_ (by first | omega | (simp <;> omega)) _) | (with_reducible refine ext_trans ?_ (by with_reducible assumption))))) one_at (fun k hk _ => ⟨trivial, fun e => by have := (HL10.out k e.symm).1; (try simp at this); omega⟩) (len60 (by simpa using hla) hlb) (byt60 (by simpa using hla) hlb) (by first | omega | (simp <;> omega)) ?_; intro v11 w11 hown11 hg11 hat11; obtain ⟨a11, n11, c11, rfl⟩ := osl_slice hown11; have hx11 : Ext w9 w11 := ext_grow hx10 hg11 (fun k hk => (by have := (HL10.out k hk).1; (try simp at this); omega)); have HO11 := Lib.hid hown11; clear hown11 hg11 hat11))
          | (go_at_call 49; go_must ((with_reducible refine (sameAtoms_any (l := al) (by have h9 := osl_rsl (G := fun _ => True) gAt HO11.out (fun _ _ _ => trivial) (fun _ _ => trivial); rw [List.nil_append, HK5.out] at h9; exact h9) (HV16.out.ext gAt (by repeat (first | (with_reducible exact ext_refl _) | (with_reducible assumption) | (with_reducible refine ext_drew ?_) | (with_reducible refine ext_drewN ?_ _) | (with_reducible refine ext_alloc ?_ _) | (with_reducible refine ext_set ?_ (by first | omega | (simp <;> omega)) _) | (with_reducible refine ext_trans ?_ (by with_reducible assumption)))))).mono ?_); rintro e w12 ⟨rfl, hx12⟩; skip)))
        go_ret
        exact ⟨rfl, (by repeat (first | (with_reducible exact ext_refl _) | (with_reducible assumption) | (with_reducible refine ext_drew ?_) | (with_reducible refine ext_drewN ?_ _) | (with_reducible refine ext_alloc ?_ _) | (with_reducible refine ext_set ?_ (by first | omega | (simp <;> omega)) _) | (with_reducible refine ext_trans ?_ (by with_reducible assumption))))⟩
  · rw [if_neg h0] at HAT
    have t1 : (checkR ((p, d), s.data.toList) != 0) = true := by simpa using h0
    generalize checkR ((p, d), s.data.toList) = er at *
    clear h0
    go_enter Try.func13, Try.ntmps13
    go_wp2_with (first
      | (go_at_call 39; go_must ((with_reducible refine (HAT.out _ (by repeat (first | (with_reducible exact ext_refl _) | (with_reducible assumption) | (with_reducible refine ext_drew ?_) | (with_reducible refine ext_drewN ?_ _) | (with_reducible refine ext_alloc ?_ _) | (with_reducible refine ext_set ?_ (by first | omega | (simp <;> omega)) _) | (with_reducible refine ext_trans ?_ (by with_reducible assumption))))).mono ?_); rintro e w1 ⟨v1, rfl, hv1, hx1⟩; obtain ⟨a1, n1, c1, rfl⟩ := hv1.slice; obtain rfl : n1 = 0 := hv1.len.1; have HV1 := Lib.hid hv1; clear hv1; have hz1 := hx1.size; (try simp at hz1); have hb1_0 : w.heap.size < w1.heap.size := (by omega); have pc0 := (hx1.cells (w.heap.size) (0) (by first | omega | (simp <;> omega))).trans (show _ = some (.slice a0 p.length c0) by first | assumption | go_simp); have pc1 := (hx1.cells (w.heap.size) (1) (by first | omega | (simp <;> omega))).trans (show _ = some (.int .i64 d) by first | assumption | go_simp); have pc2 := (hx1.cells (w.heap.size) (2) (by first | omega | (simp <;> omega))).trans (show _ = some (.string s) by first | assumption | go_simp)))
      | (go_at_call 45; go_must ((with_reducible refine (runBegun_any _).mono ?_); rintro e w2 ⟨rfl, hx2⟩; have hz2 := hx2.size; (try simp at hz2); have hb2_0 : w.heap.size < w2.heap.size := (by omega); have qc0 := (hx2.cells (w.heap.size) (0) (by first | omega | (simp <;> omega))).trans (show _ = some (.slice a0 p.length c0) by first | assumption | go_simp); have qc1 := (hx2.cells (w.heap.size) (1) (by first | omega | (simp <;> omega))).trans (show _ = some (.int .i64 d) by first | assumption | go_simp); have qc2 := (hx2.cells (w.heap.size) (2) (by first | omega | (simp <;> omega))).trans (show _ = some (.string s) by first | assumption | go_simp)))
      | (go_at_call 32; go_must ((with_reducible refine (markBegun_any _).mono ?_); rintro e w3 ⟨rfl, hx3⟩; have hz3 := hx3.size; (try simp at hz3); have hb3_0 : w.heap.size < w3.heap.size := (by omega); have rc0 := (hx3.cells (w.heap.size) (0) (by first | omega | (simp <;> omega))).trans (show _ = some (.slice a0 p.length c0) by first | assumption | go_simp); have rc1 := (hx3.cells (w.heap.size) (1) (by first | omega | (simp <;> omega))).trans (show _ = some (.int .i64 d) by first | assumption | go_simp); have rc2 := (hx3.cells (w.heap.size) (2) (by first | omega | (simp <;> omega))).trans (show _ = some (.string s) by first | assumption | go_simp))))
    go_ret
    exact ⟨rfl, (by repeat (first | (with_reducible exact ext_refl _) | (with_reducible assumption) | (with_reducible refine ext_drew ?_) | (with_reducible refine ext_drewN ?_ _) | (with_reducible refine ext_alloc ?_ _) | (with_reducible refine ext_set ?_ (by first | omega | (simp <;> omega)) _) | (with_reducible refine ext_trans ?_ (by with_reducible assumption))))⟩
end Go.Proofs.Ythkhkbjkbpgaoaa
