/- Plain laws of deeds: in whatever order they are done; what is gone stays gone. -/
import Derived.Test.YtfgfdohppgoajaaQ84688fdb58
import Derived.Test.YtfgfdohppgoajaaQed9260ba11
import Derived.Test.YtfgfdohppgoajaaQ03bf41633c
set_option linter.unusedVariables false
set_option linter.unusedSimpArgs false
namespace Go.Proofs.Ytfgfdohppgoajaa
open Go Go.RowKit Cp

def takesB (d : De) (x : Mk) : Bool := !decide (d.kind = 1) && hasG (marksD d) x
def putsO (d : De) (x : Mk) : Option UInt8 := if d.kind = 1 then look (atomsR d.run) x else none
theorem look_has : ∀ (l : List At) (x : Mk), look l x = none ↔ hasM l x = false
  | [], x => by simp [look, hasM]
  | a :: r, x => by
    rw [look_cons, hasM_cons, Bool.or_eq_false_iff, ← look_has r x]
    unfold one
    by_cases h : ordM a.1 x = 0
    · rw [if_pos h, decide_eq_true h]
      cases look r x <;> simp [comb]
    · rw [if_neg h, decide_eq_false h]
      cases look r x <;> simp [comb]
theorem look_filter (g : List Mk) : ∀ (m : List At) (x : Mk), look (m.filter fun a => !hasG g a.1) x = if hasG g x = true then none else look m x
  | [], x => by simp [look]
  | a :: r, x => by
    rw [List.filter_cons]
    by_cases h : ordM a.1 x = 0
    · have e : a.1 = x := ordM_zero.1 h
      cases hg : hasG g x with
      | true =>
        rw [e, hg, if_neg (by simp), look_filter g r x, hg, if_pos rfl, if_pos rfl]
      | false =>
        rw [e, hg, if_pos (by simp), if_neg (by simp), look_cons, look_cons, look_filter g r x, hg, if_neg (by simp)]
    · have e1 : one a x = none := by unfold one; rw [if_neg h]
      have e2 : comb none (look r x) = look r x := by rw [comb_comm, comb_none]
      split
      · rw [look_cons, look_cons, look_filter g r x, e1, e2]
        split
        · rfl
        · rw [comb_comm, comb_none]
      · rw [look_cons, look_filter g r x, e1, e2]
theorem gone_deed (s : St) (d : De) (x : Mk) : hasG (doDeed s d).2 x = (hasG s.2 x || takesB d x) := by
  unfold doDeed takesB
  by_cases h : d.kind = 1
  · rw [if_pos h, decide_eq_true h]; simp
  · rw [if_neg h, decide_eq_false h]
    simp only [Bool.not_false, Bool.true_and]
    exact putGs_has _ _ _
theorem gone_look {s : St} (hs : RightS s) {x : Mk} (h : hasG s.2 x = true) : look s.1 x = none := (look_has _ _).2 (hs.2.2.2 x (hasG_iff.1 h))
theorem look_deed {s : St} {d : De} (hs : RightS s) (x : Mk) : look (doDeed s d).1 x = if hasG (doDeed s d).2 x = true then none else comb (look s.1 x) (putsO d x) := by
  rw [gone_deed]
  unfold doDeed putsO takesB
  by_cases h : d.kind = 1
  · rw [if_pos h, if_pos h, decide_eq_true h]
    simp only [Bool.not_true, Bool.false_and, Bool.or_false]
    rw [putNs_merge, look_merge, look_filter]
    by_cases hg : hasG s.2 x = true
    · rw [if_pos hg, if_pos hg, gone_look hs hg]; rfl
    · rw [if_neg hg, if_neg hg]
  · rw [if_neg h, if_neg h, decide_eq_false h, comb_none]
    simp only [Bool.not_false, Bool.true_and]
    have e : look (takeA s.1 (marksD d)) x = if hasG (marksD d) x = true then none else look s.1 x := look_filter _ _ _
    rw [e]
    by_cases hg : hasG s.2 x = true
    · rw [hg, Bool.true_or, if_pos rfl, gone_look hs hg]; split <;> rfl
    · have hg' : hasG s.2 x = false := by simpa using hg
      rw [hg', Bool.false_or]
def putsL (l : List De) (x : Mk) (o : Option UInt8) : Option UInt8 := l.foldl (fun o d => comb o (putsO d x)) o
theorem doDs_char : ∀ {l : List De} {s t : St}, RightS s → (∀ d ∈ l, checkD d = 0) → doDs s l = some t → ∀ x, hasG t.2 x = (hasG s.2 x || l.any fun d => takesB d x) ∧ look t.1 x = if hasG t.2 x = true then none else putsL l x (look s.1 x)
  | [], s, t, hs, _, h, x => by
    have e : s = t := by simpa [doDs] using h
    subst e
    refine ⟨by simp, ?_⟩
    by_cases hg : hasG s.2 x = true
    · rw [if_pos hg, gone_look hs hg]
    · rw [if_neg hg]; rfl
  | d :: l, s, t, hs, hd, h, x => by
    unfold doDs at h
    cases hm : tooMuch (doDeed s d) with
    | true => rw [hm, if_pos rfl] at h; cases h
    | false =>
      rw [hm, if_neg (by simp)] at h
      obtain ⟨i1, i2⟩ := doDs_char (doDeed_right hs (hd d (by simp))) (fun y hy => hd y (by simp [hy])) h x
      refine ⟨by rw [i1, gone_deed, List.any_cons, Bool.or_assoc], ?_⟩
      rw [i2]
      by_cases hg : hasG t.2 x = true
      · rw [if_pos hg, if_pos hg]
      · rw [if_neg hg, if_neg hg, look_deed hs]
        have hg2 : hasG (doDeed s d).2 x = false := by
          have : hasG t.2 x = false := by simpa using hg
          rw [i1, Bool.or_eq_false_iff] at this
          exact this.1
        rw [hg2, if_neg (by simp)]; rfl
def key : Option UInt8 → Nat
  | none => 256
  | some u => u.toNat
theorem key_inj {a b : Option UInt8} (h : key a = key b) : a = b := by
  cases a with
  | none =>
    cases b with
    | none => rfl
    | some v => simp only [key] at h; have := v.toNat_lt; omega
  | some u =>
    cases b with
    | none => simp only [key] at h; have := u.toNat_lt; omega
    | some v => simp only [key] at h; rw [UInt8.toNat_inj.1 h]
theorem key_comb (a b : Option UInt8) : key (comb a b) = min (key a) (key b) := by
  cases a with
  | none => cases b with
    | none => rfl
    | some v => simp only [comb, key]; have := v.toNat_lt; omega
  | some u => cases b with
    | none => simp only [comb, key]; have := u.toNat_lt; omega
    | some v => simp only [comb, key, mnS_toNat]
theorem le_puts (n : Nat) (x : Mk) : ∀ (l : List De) (o : Option UInt8), n ≤ key (putsL l x o) ↔ n ≤ key o ∧ ∀ d ∈ l, n ≤ key (putsO d x)
  | [], o => by simp [putsL]
  | d :: l, o => by
    have e : putsL (d :: l) x o = putsL l x (comb o (putsO d x)) := rfl
    rw [e, le_puts n x l, key_comb, Nat.le_min]
    simp only [List.mem_cons, forall_eq_or_imp, and_assoc]
theorem puts_sub {l m : List De} (hs : ∀ d ∈ m, d ∈ l) (x : Mk) (o : Option UInt8) : putsL (m ++ l) x o = putsL l x o := by
  refine key_inj (Nat.le_antisymm ?_ ?_)
  · refine (le_puts _ x l o).2 ?_
    have h := (le_puts (key (putsL (m ++ l) x o)) x (m ++ l) o).1 (Nat.le_refl _)
    exact ⟨h.1, fun d hd => h.2 d (by simp [hd])⟩
  · refine (le_puts _ x (m ++ l) o).2 ?_
    have h := (le_puts (key (putsL l x o)) x l o).1 (Nat.le_refl _)
    refine ⟨h.1, fun d hd => ?_⟩
    rcases List.mem_append.1 hd with hd | hd
    · exact h.2 d (hs d hd)
    · exact h.2 d hd
theorem goneG_eq : ∀ {l m : List Mk}, SortedG l → SortedG m → (∀ x, hasG l x = hasG m x) → l = m
  | [], [], _, _, _ => rfl
  | [], b :: m, _, _, h => by
    have h1 := h b
    rw [hasG_iff.2 (List.mem_cons_self ..)] at h1
    simp [hasG] at h1
  | a :: l, [], _, _, h => by
    have h1 := h a
    rw [hasG_iff.2 (List.mem_cons_self ..)] at h1
    simp [hasG] at h1
  | a :: l, b :: m, hl, hm, h => by
    have ha := sortedG_head hl
    have hb := sortedG_head hm
    have e : a = b := by
      have h1 := h a
      rw [hasG_iff.2 (List.mem_cons_self ..)] at h1
      have h2 := hasG_iff.1 h1.symm
      rcases List.mem_cons.1 h2 with rfl | h2
      · rfl
      · have h3 := h b
        rw [hasG_iff.2 (List.mem_cons_self ..)] at h3
        rcases List.mem_cons.1 (hasG_iff.1 h3) with rfl | h4
        · rfl
        · have h5 := hb a h2
          have h6 := ha b h4
          have h7 := ordM_anti a b
          omega
    subst e
    refine congrArg (a :: ·) (goneG_eq (sortedG_tail hl) (sortedG_tail hm) (fun x => ?_))
    have hx := h x
    rw [hasG_cons, hasG_cons] at hx
    by_cases hax : ordM a x = 0
    · have e : a = x := ordM_zero.1 hax
      subst e
      have h1 : hasG l a = false := by
        cases h9 : hasG l a with
        | false => rfl
        | true => have h8 := ha a (hasG_iff.1 h9); rw [hax] at h8; omega
      have h2 : hasG m a = false := by
        cases h9 : hasG m a with
        | false => rfl
        | true => have h8 := hb a (hasG_iff.1 h9); rw [hax] at h8; omega
      rw [h1, h2]
    · rw [decide_eq_false hax, Bool.false_or, Bool.false_or] at hx
      exact hx
/-- in whatever order, and again -/
theorem doDs_any {s a b : St} {l m : List De} (hs : FitS s) (hd : ∀ d ∈ l, checkD d = 0) (hm : ∀ d ∈ m, d ∈ l) (ha : doDs s l = some a) (hb : doDs s (m ++ l) = some b) : a = b := by
  have hd2 : ∀ d ∈ m ++ l, checkD d = 0 := fun d h => by
    rcases List.mem_append.1 h with h | h
    · exact hd d (hm d h)
    · exact hd d h
  have fa := doDs_fit hs hd ha
  have fb := doDs_fit hs hd2 hb
  have ca := doDs_char hs.1 hd ha
  have cb := doDs_char hs.1 hd2 hb
  have hany : ∀ x, ((m ++ l).any fun d => takesB d x) = l.any fun d => takesB d x := fun x => by
    rw [List.any_append]
    cases h1 : m.any fun d => takesB d x with
    | false => simp
    | true =>
      obtain ⟨d, hd3, h2⟩ := List.any_eq_true.1 h1
      rw [Bool.true_or]
      exact (List.any_eq_true.2 ⟨d, hm d hd3, h2⟩).symm
  have hg : ∀ x, hasG a.2 x = hasG b.2 x := fun x => by rw [(ca x).1, (cb x).1, hany]
  have h2 : a.2 = b.2 := goneG_eq fa.1.2.1 fb.1.2.1 hg
  have h1 : a.1 = b.1 := look_eq fa.1.1.1 fb.1.1.1 (fun x => by rw [(ca x).2, (cb x).2, hg x, puts_sub hm])
  exact Prod.ext h1 h2
theorem allE_any {s : St} {l m : List De} (h : allE s l = 0) (hm : ∀ d ∈ m, d ∈ l) : allE s (m ++ l) = 2 ∨ (allE s (m ++ l) = 0 ∧ allV s (m ++ l) = allV s l) := by
  obtain ⟨h1, h2, h3⟩ := allE_ok.1 h
  have hd2 : ∀ d ∈ m ++ l, checkD d = 0 := fun d h => by
    rcases List.mem_append.1 h with h | h
    · exact h2 d (hm d h)
    · exact h2 d h
  cases hb : doDs s (m ++ l) with
  | none =>
    left
    unfold allE
    rw [if_neg (by simpa using checkS_fit.2 h1), if_neg (by simpa using checkDL_ok.2 hd2), if_pos hb]
  | some b =>
    right
    have e0 : allE s (m ++ l) = 0 := allE_ok.2 ⟨h1, hd2, by rw [hb]; simp⟩
    refine ⟨e0, ?_⟩
    cases ha : doDs s l with
    | none => exact absurd ha h3
    | some a =>
      unfold allV
      rw [if_pos e0, if_pos h, ha, hb]
      exact (doDs_any h1 h2 hm ha hb).symm
theorem allV_fit {s : St} {l : List De} (h : allE s l = 0) : FitS (allV s l) := by
  obtain ⟨h1, h2, h3⟩ := allE_ok.1 h
  cases ha : doDs s l with
  | none => exact absurd ha h3
  | some a => unfold allV; rw [if_pos h, ha]; exact doDs_fit h1 h2 ha
/-- what is gone stays so; what is there was there, or was put -/
theorem allV_gone {s : St} {l : List De} (h : allE s l = 0) {m : Mk} (hm : m ∈ s.2) : hasG (allV s l).2 m = true ∧ hasM (allV s l).1 m = false := by
  obtain ⟨h1, h2, h3⟩ := allE_ok.1 h
  cases ha : doDs s l with
  | none => exact absurd ha h3
  | some a =>
    have e : allV s l = a := by unfold allV; rw [if_pos h, ha]; rfl
    have hg : hasG a.2 m = true := by rw [(doDs_char h1.1 h2 ha m).1, hasG_iff.2 hm, Bool.true_or]
    rw [e]
    exact ⟨hg, (doDs_fit h1 h2 ha).1.2.2.2 m (hasG_iff.1 hg)⟩
theorem allV_was {s : St} {l : List De} (h : allE s l = 0) {m : Mk} (hm : hasM (allV s l).1 m = true) : hasM s.1 m = true ∨ ∃ d ∈ l, d.kind = 1 ∧ m ∈ marksD d := by
  obtain ⟨h1, h2, h3⟩ := allE_ok.1 h
  cases ha : doDs s l with
  | none => exact absurd ha h3
  | some a =>
    have e : allV s l = a := by unfold allV; rw [if_pos h, ha]; rfl
    rw [e] at hm
    have hl : look a.1 m ≠ none := fun h9 => by rw [(look_has _ _).1 h9] at hm; cases hm
    rw [(doDs_char h1.1 h2 ha m).2] at hl
    by_cases hs : hasM s.1 m = true
    · exact .inl hs
    · right
      have hs' : look s.1 m = none := (look_has _ _).2 (by simpa using hs)
      by_cases hg : hasG a.2 m = true
      · rw [if_pos hg] at hl; exact absurd rfl hl
      · rw [if_neg hg, hs'] at hl
        refine Classical.byContradiction fun hno => hl (key_inj (Nat.le_antisymm (by
          generalize putsL l m none = o
          cases o with
          | none => exact Nat.le_refl _
          | some u => have := u.toNat_lt; simp only [key]; omega) ((le_puts _ m l none).2 ⟨Nat.le_refl _, fun d hd => ?_⟩)))
        have : putsO d m = none := by
          unfold putsO
          by_cases hk : d.kind = 1
          · rw [if_pos hk]
            refine (look_has _ _).2 ?_
            cases h9 : hasM (atomsR d.run) m with
            | false => rfl
            | true =>
              obtain ⟨x, hx, rfl⟩ := hasM_iff.1 h9
              exact absurd ⟨d, hd, hk, by unfold marksD; rw [if_pos hk, ← atoms_marks]; exact List.mem_map.2 ⟨x, hx, rfl⟩⟩ hno
          · rw [if_neg hk]
        rw [this]; exact Nat.le_refl _
end Go.Proofs.Ytfgfdohppgoajaa
/- The marks that a deed names, by the document. -/
namespace Go.Proofs.Ytfgfdohppgoajaa
open Go Go.RowKit Go.BigFrame Cp

def IsMksN (q : List Mk) (w : World) (e : Ending) (w' : World) : Prop := ∃ v, e = .returned v ∧ RSl RMk 2 (fun j => w.heap.size ≤ j) w' v q ∧ Ext w w'
theorem marksN_snoc (m : Mk) (k : Nat) : marksN m (k + 1) = marksN m k ++ [afterM m (k : Int)] := by unfold marksN; rw [List.range_succ, List.map_append]; rfl
set_option maxRecDepth 100000 in
set_option maxHeartbeats 4000000 in
theorem marksOf_any {F : Nat → Prop} {w : World} {cs : List Value} {d : De} (h : RDe F w cs d) (hc : checkD d = 0) :
    Calls Try.prog 22 #[.agg cs.toArray] w (IsMksN (marksD d) w) := by
  obtain ⟨v0, x0, u0, rfl, hk, h1, h2, h3, h4, h5, h6⟩ := h
  obtain ⟨a1, n1, c1, rfl⟩ := h1.slice
  obtain ⟨a2, n2, c2, rfl⟩ := h4.slice
  obtain ⟨sx, rfl, hsx, hsz⟩ := tx_bytes h3
  obtain ⟨dk, ⟨⟨p1, d1⟩, tx⟩, ⟨p2, d2⟩, dn⟩ := d
  simp only at hk h1 h2 h3 h4 h5 h6 hsx ⊢
  subst hsx
  obtain ⟨i0, hi0, hz0, hz1', hz2⟩ := info_parts cm_info
  have HJ := Lib.hid hi0
  have HZ0 := Lib.hid hz0
  have HZ1 := Lib.hid hz1'
  have HZ2 := Lib.hid hz2
  have HM1 := Lib.hid (fun (W : World) (hx : Ext w W) => rmk_of' (h1.ext gStp hx) h2)
  have HM2 := Lib.hid (fun (W : World) (hx : Ext w W) => rmk_of' (h4.ext gStp hx) h5)
  clear h1 h2 h3 h4 h5 h6 hk hi0 hz0 hz1' hz2
  by_cases hkd : dk = 1
  · obtain ⟨hr, _, _⟩ := deed_put hc hkd
    obtain ⟨hc2, _, hc3, _, _⟩ := checkR_parts hr
    simp only at hc2 hc3
    have hE : marksD ⟨dk, ((p1, d1), sx.data.toList), (p2, d2), dn⟩ = marksN (p1, d1) sx.size := by unfold marksD; rw [if_pos hkd]; try simp
    rw [hE]
    have hkk : (dk == 1) = true := by simpa using hkd
    have hs60 : sx.size ≤ 60 := by simpa using hc3
    have HAF := Lib.hid (fun (k : Nat) (hk : k < sx.size) (W : World) (hx : Ext w W) => afterOf_any (k := (k : Int)) (HM1.out W hx) (check_len hc2) (check_ne hc2) (check_digit hc2) (check_clock hc2) ⟨by omega, by omega⟩)
    clear hE hc hr hc2 hc3 HM1 HM2 hkd
    go_enter Try.func22, Try.ntmps22
    go_wp2_with fail
    refine wp_name (fun wb ewb => ?_)
    have b0 : wb.cell? ⟨w.heap.size, 0, none⟩ = some (.int .i64 dk) := by rw [ewb]; go_simp
    have b1 : wb.cell? ⟨w.heap.size, 1, none⟩ = some (.slice a1 n1 c1) := by rw [ewb]; go_simp
    have b2 : wb.cell? ⟨w.heap.size, 2, none⟩ = some (.int .i64 d1) := by rw [ewb]; go_simp
    have b3 : wb.cell? ⟨w.heap.size, 3, none⟩ = some (.string sx) := by rw [ewb]; go_simp
    have b4 : wb.cell? ⟨w.heap.size, 4, none⟩ = some (.slice a2 n2 c2) := by rw [ewb]; go_simp
    have b5 : wb.cell? ⟨w.heap.size, 5, none⟩ = some (.int .i64 d2) := by rw [ewb]; go_simp
    have b6 : wb.cell? ⟨w.heap.size, 6, none⟩ = some (.int .i64 dn) := by rw [ewb]; go_simp
    have hbb : w.heap.size < wb.heap.size := by rw [ewb]; first | omega | (simp <;> omega)
    have HWB := Lib.hid (show Ext w wb by rw [ewb]; exact (by repeat (first | (with_reducible exact ext_refl _) | (with_reducible assumption) | (with_reducible refine ext_drew ?_) | (with_reducible refine ext_drewN ?_ _) | (with_reducible refine ext_alloc ?_ _) | (with_reducible refine ext_set ?_ (by first | omega | (simp <;> omega)) _) | (with_reducible refine ext_trans ?_ (by with_reducible assumption)))))
    clear ewb
    go_loopw [3, 4] (fun ov iv wr => ∃ k : Nat, k ≤ sx.size ∧ iv = .int .i64 k ∧ Hid (OSl RMk 2 29 wb.heap.size (fun j => wb.heap.size ≤ j) wr ov (marksN (p1, d1) k)) ∧ Ext wb wr) (fun _ iv _ => sx.size - (intOf iv).toNat)
    case atStart => exact ⟨0, Nat.zero_le _, rfl, Lib.hid osl_nil, ext_refl _⟩
    case round =>
      obtain ⟨k, hk, rfl, HO, hx⟩ := hrel
      have x0 := (hx.cells w.heap.size 0 hbb).trans b0
      have x1 := (hx.cells w.heap.size 1 hbb).trans b1
      have x2 := (hx.cells w.heap.size 2 hbb).trans b2
      have x3 := (hx.cells w.heap.size 3 hbb).trans b3
      have x4 := (hx.cells w.heap.size 4 hbb).trans b4
      have x5 := (hx.cells w.heap.size 5 hbb).trans b5
      have x6 := (hx.cells w.heap.size 6 hbb).trans b6
      have hzr := hx.size
      have HXB := Lib.hid hx
      have HX := Lib.hid (ext_trans HWB.out hx)
      have hbr : w.heap.size < wr.heap.size := by omega
      clear hx b0 b1 b2 b3 b4 b5 b6
      obtain ⟨a5, n5, c5, rfl⟩ := osl_slice HO.out
      have HOL := Lib.hid (osl_lt HO.out)
      have hq : (marksN (p1, d1) k).length ≤ 1000 := by rw [marksN_len]; omega
      obtain rfl : n5 = (marksN (p1, d1) k).length := (osl_len HO.out).1
      by_cases hlt : k < sx.size
      · have HA := Lib.hid (HAF.out k hlt)
        have HEX := Lib.hid (marksN_snoc (p1, d1) k)
        generalize marksN (p1, d1) k = q at *
        generalize afterM (p1, d1) (k : Int) = am at *
        go_wp2_with (first | (go_at_call 58; go_must ((with_reducible refine (HA.out _ (ext_trans HX.out (by repeat (first | (with_reducible exact ext_refl _) | (with_reducible assumption) | (with_reducible refine ext_drew ?_) | (with_reducible refine ext_drewN ?_ _) | (with_reducible refine ext_alloc ?_ _) | (with_reducible refine ext_set ?_ (by first | omega | (simp <;> omega)) _) | (with_reducible refine ext_trans ?_ (by with_reducible assumption)))))).mono ?_); rintro e w3 ⟨cs3, rfl, hm3, hx3⟩; have HM3 := Lib.hid (omk_mk hm3); obtain ⟨v3, rfl, hv3, hi3⟩ := hm3; obtain ⟨a3, n3, c3, rfl⟩ := osl_slice hv3; have HI3 := Lib.hid hi3; have hs3 := hx3.size; (try simp at hs3); have hb3 : w.heap.size < w3.heap.size := (by omega); have q0 := (hx3.cells w.heap.size 0 (by first | omega | (simp <;> omega))).trans (show _ = some (.int .i64 dk) by first | assumption | go_simp); have q1 := (hx3.cells w.heap.size 1 (by first | omega | (simp <;> omega))).trans (show _ = some (.slice a1 n1 c1) by first | assumption | go_simp); have q2 := (hx3.cells w.heap.size 2 (by first | omega | (simp <;> omega))).trans (show _ = some (.int .i64 d1) by first | assumption | go_simp); have q3 := (hx3.cells w.heap.size 3 (by first | omega | (simp <;> omega))).trans (show _ = some (.string sx) by first | assumption | go_simp); have q4 := (hx3.cells w.heap.size 4 (by first | omega | (simp <;> omega))).trans (show _ = some (.slice a2 n2 c2) by first | assumption | go_simp); have q5 := (hx3.cells w.heap.size 5 (by first | omega | (simp <;> omega))).trans (show _ = some (.int .i64 d2) by first | assumption | go_simp); have q6 := (hx3.cells w.heap.size 6 (by first | omega | (simp <;> omega))).trans (show _ = some (.int .i64 dn) by first | assumption | go_simp); clear hv3 hi3)) | (at_builtin; go_must (refine wpList_appAll gMk rfl (.tmp 17) (.tmp 23) 23 rfl wb.heap.size 29 i0 _ 2 32 Try.underlying23 HJ.out HZ0.out HZ1.out HZ2.out rfl (by omega) (F := fun j => wb.heap.size ≤ j) (G := fun j => wr.heap.size ≤ j) (.slice a5 q.length c5) q rfl (osl_ext gMk HO.out (by repeat (first | (with_reducible exact ext_refl _) | (with_reducible assumption) | (with_reducible refine ext_drew ?_) | (with_reducible refine ext_drewN ?_ _) | (with_reducible refine ext_alloc ?_ _) | (with_reducible refine ext_set ?_ (by first | omega | (simp <;> omega)) _) | (with_reducible refine ext_trans ?_ (by with_reducible assumption))))) _ [am] rfl (cm_one (RSl.more gStp (fun j hj _ => (show wr.heap.size ≤ j by first | omega | (simp at hj; omega))) ((c_path HM3.out).ext gStp (by repeat (first | (with_reducible exact ext_refl _) | (with_reducible assumption) | (with_reducible refine ext_drew ?_) | (with_reducible refine ext_drewN ?_ _) | (with_reducible refine ext_alloc ?_ _) | (with_reducible refine ext_set ?_ (by first | omega | (simp <;> omega)) _) | (with_reducible refine ext_trans ?_ (by with_reducible assumption)))))) HI3.out (by first | assumption | go_simp) (by first | assumption | go_simp) (by first | omega | (simp <;> omega)) (by first | omega | (simp <;> omega))) one_mk (fun j hj _ => ⟨by omega, fun e => by have := HOL.out j e.symm; omega⟩) (c_len hq) (cm_byt hq) (by first | omega | (simp <;> omega)) ?_; intro v9 w9 hown9 hg9 hat9; obtain ⟨a9, n9, c9, rfl⟩ := osl_slice hown9; have hx9 : Ext wb w9 := ext_grow (ext_trans HXB.out (by repeat (first | (with_reducible exact ext_refl _) | (with_reducible assumption) | (with_reducible refine ext_drew ?_) | (with_reducible refine ext_drewN ?_ _) | (with_reducible refine ext_alloc ?_ _) | (with_reducible refine ext_set ?_ (by first | omega | (simp <;> omega)) _) | (with_reducible refine ext_trans ?_ (by with_reducible assumption))))) hg9 (fun j hj => (HOL.out j hj).1); have HV9 := hown9)))
        go_roundw
        case rel => exact ⟨k + 1, by omega, by go_num, Lib.hid (by rw [HEX.out]; exact HV9), hx9⟩
        case measure => simp [intOf]; omega
      · have hkn : k = sx.size := by omega
        subst hkn
        have HF := Lib.hid (osl_rsl gMk HO.out (G := fun j => w.heap.size ≤ j) (fun j hj _ => by omega) (fun j hj => by omega))
        go_wp2
        go_ret
        exact ⟨_, rfl, HF.out, HX.out⟩
  · obtain ⟨_, hc2, ⟨n, hn0, hn1, hn2⟩, _, _, _⟩ := deed_take hc hkd
    simp only at hc2 hn0
    have hE : marksD ⟨dk, ((p1, d1), sx.data.toList), (p2, d2), dn⟩ = marksN (p2, d2) n := by unfold marksD; rw [if_neg hkd, hn0]; try simp
    rw [hE]
    have hkk : (dk == 1) = false := by simpa using hkd
    subst hn0
    have HAF := Lib.hid (fun (k : Nat) (hk : k < n) (W : World) (hx : Ext w W) => afterOf_any (k := (k : Int)) (HM2.out W hx) (check_len hc2) (check_ne hc2) (check_digit hc2) (check_clock hc2) ⟨by omega, by omega⟩)
    clear hE hc hc2 HM1 HM2 hkd
    go_enter Try.func22, Try.ntmps22
    go_wp2_with fail
    refine wp_name (fun wb ewb => ?_)
    have b0 : wb.cell? ⟨w.heap.size, 0, none⟩ = some (.int .i64 dk) := by rw [ewb]; go_simp
    have b1 : wb.cell? ⟨w.heap.size, 1, none⟩ = some (.slice a1 n1 c1) := by rw [ewb]; go_simp
    have b2 : wb.cell? ⟨w.heap.size, 2, none⟩ = some (.int .i64 d1) := by rw [ewb]; go_simp
    have b3 : wb.cell? ⟨w.heap.size, 3, none⟩ = some (.string sx) := by rw [ewb]; go_simp
    have b4 : wb.cell? ⟨w.heap.size, 4, none⟩ = some (.slice a2 n2 c2) := by rw [ewb]; go_simp
    have b5 : wb.cell? ⟨w.heap.size, 5, none⟩ = some (.int .i64 d2) := by rw [ewb]; go_simp
    have b6 : wb.cell? ⟨w.heap.size, 6, none⟩ = some (.int .i64 (n : Nat)) := by rw [ewb]; go_simp
    have hbb : w.heap.size < wb.heap.size := by rw [ewb]; first | omega | (simp <;> omega)
    have HWB := Lib.hid (show Ext w wb by rw [ewb]; exact (by repeat (first | (with_reducible exact ext_refl _) | (with_reducible assumption) | (with_reducible refine ext_drew ?_) | (with_reducible refine ext_drewN ?_ _) | (with_reducible refine ext_alloc ?_ _) | (with_reducible refine ext_set ?_ (by first | omega | (simp <;> omega)) _) | (with_reducible refine ext_trans ?_ (by with_reducible assumption)))))
    clear ewb
    go_loopw [3, 5] (fun ov iv wr => ∃ k : Nat, k ≤ n ∧ iv = .int .i64 k ∧ Hid (OSl RMk 2 29 wb.heap.size (fun j => wb.heap.size ≤ j) wr ov (marksN (p2, d2) k)) ∧ Ext wb wr) (fun _ iv _ => n - (intOf iv).toNat)
    case atStart => exact ⟨0, Nat.zero_le _, rfl, Lib.hid osl_nil, ext_refl _⟩
    case round =>
      obtain ⟨k, hk, rfl, HO, hx⟩ := hrel
      have x0 := (hx.cells w.heap.size 0 hbb).trans b0
      have x1 := (hx.cells w.heap.size 1 hbb).trans b1
      have x2 := (hx.cells w.heap.size 2 hbb).trans b2
      have x3 := (hx.cells w.heap.size 3 hbb).trans b3
      have x4 := (hx.cells w.heap.size 4 hbb).trans b4
      have x5 := (hx.cells w.heap.size 5 hbb).trans b5
      have x6 := (hx.cells w.heap.size 6 hbb).trans b6
      have hzr := hx.size
      have HXB := Lib.hid hx
      have HX := Lib.hid (ext_trans HWB.out hx)
      have hbr : w.heap.size < wr.heap.size := by omega
      clear hx b0 b1 b2 b3 b4 b5 b6
      obtain ⟨a5, n5, c5, rfl⟩ := osl_slice HO.out
      have HOL := Lib.hid (osl_lt HO.out)
      have hq : (marksN (p2, d2) k).length ≤ 1000 := by rw [marksN_len]; omega
      obtain rfl : n5 = (marksN (p2, d2) k).length := (osl_len HO.out).1
      by_cases hlt : k < n
      · have HA := Lib.hid (HAF.out k hlt)
        have HEX := Lib.hid (marksN_snoc (p2, d2) k)
        generalize marksN (p2, d2) k = q at *
        generalize afterM (p2, d2) (k : Int) = am at *
        go_wp2_with (first | (go_at_call 58; go_must ((with_reducible refine (HA.out _ (ext_trans HX.out (by repeat (first | (with_reducible exact ext_refl _) | (with_reducible assumption) | (with_reducible refine ext_drew ?_) | (with_reducible refine ext_drewN ?_ _) | (with_reducible refine ext_alloc ?_ _) | (with_reducible refine ext_set ?_ (by first | omega | (simp <;> omega)) _) | (with_reducible refine ext_trans ?_ (by with_reducible assumption)))))).mono ?_); rintro e w3 ⟨cs3, rfl, hm3, hx3⟩; have HM3 := Lib.hid (omk_mk hm3); obtain ⟨v3, rfl, hv3, hi3⟩ := hm3; obtain ⟨a3, n3, c3, rfl⟩ := osl_slice hv3; have HI3 := Lib.hid hi3; have hs3 := hx3.size; (try simp at hs3); have hb3 : w.heap.size < w3.heap.size := (by omega); have q0 := (hx3.cells w.heap.size 0 (by first | omega | (simp <;> omega))).trans (show _ = some (.int .i64 dk) by first | assumption | go_simp); have q1 := (hx3.cells w.heap.size 1 (by first | omega | (simp <;> omega))).trans (show _ = some (.slice a1 n1 c1) by first | assumption | go_simp); have q2 := (hx3.cells w.heap.size 2 (by first | omega | (simp <;> omega))).trans (show _ = some (.int .i64 d1) by first | assumption | go_simp); have q3 := (hx3.cells w.heap.size 3 (by first | omega | (simp <;> omega))).trans (show _ = some (.string sx) by first | assumption | go_simp); have q4 := (hx3.cells w.heap.size 4 (by first | omega | (simp <;> omega))).trans (show _ = some (.slice a2 n2 c2) by first | assumption | go_simp); have q5 := (hx3.cells w.heap.size 5 (by first | omega | (simp <;> omega))).trans (show _ = some (.int .i64 d2) by first | assumption | go_simp); have q6 := (hx3.cells w.heap.size 6 (by first | omega | (simp <;> omega))).trans (show _ = some (.int .i64 (n : Nat)) by first | assumption | go_simp); clear hv3 hi3)) | (at_builtin; go_must (refine wpList_appAll gMk rfl (.tmp 32) (.tmp 37) 23 rfl wb.heap.size 29 i0 _ 2 32 Try.underlying23 HJ.out HZ0.out HZ1.out HZ2.out rfl (by omega) (F := fun j => wb.heap.size ≤ j) (G := fun j => wr.heap.size ≤ j) (.slice a5 q.length c5) q rfl (osl_ext gMk HO.out (by repeat (first | (with_reducible exact ext_refl _) | (with_reducible assumption) | (with_reducible refine ext_drew ?_) | (with_reducible refine ext_drewN ?_ _) | (with_reducible refine ext_alloc ?_ _) | (with_reducible refine ext_set ?_ (by first | omega | (simp <;> omega)) _) | (with_reducible refine ext_trans ?_ (by with_reducible assumption))))) _ [am] rfl (cm_one (RSl.more gStp (fun j hj _ => (show wr.heap.size ≤ j by first | omega | (simp at hj; omega))) ((c_path HM3.out).ext gStp (by repeat (first | (with_reducible exact ext_refl _) | (with_reducible assumption) | (with_reducible refine ext_drew ?_) | (with_reducible refine ext_drewN ?_ _) | (with_reducible refine ext_alloc ?_ _) | (with_reducible refine ext_set ?_ (by first | omega | (simp <;> omega)) _) | (with_reducible refine ext_trans ?_ (by with_reducible assumption)))))) HI3.out (by first | assumption | go_simp) (by first | assumption | go_simp) (by first | omega | (simp <;> omega)) (by first | omega | (simp <;> omega))) one_mk (fun j hj _ => ⟨by omega, fun e => by have := HOL.out j e.symm; omega⟩) (c_len hq) (cm_byt hq) (by first | omega | (simp <;> omega)) ?_; intro v9 w9 hown9 hg9 hat9; obtain ⟨a9, n9, c9, rfl⟩ := osl_slice hown9; have hx9 : Ext wb w9 := ext_grow (ext_trans HXB.out (by repeat (first | (with_reducible exact ext_refl _) | (with_reducible assumption) | (with_reducible refine ext_drew ?_) | (with_reducible refine ext_drewN ?_ _) | (with_reducible refine ext_alloc ?_ _) | (with_reducible refine ext_set ?_ (by first | omega | (simp <;> omega)) _) | (with_reducible refine ext_trans ?_ (by with_reducible assumption))))) hg9 (fun j hj => (HOL.out j hj).1); have HV9 := hown9)))
        go_roundw
        case rel => exact ⟨k + 1, by omega, by go_num, Lib.hid (by rw [HEX.out]; exact HV9), hx9⟩
        case measure => simp [intOf]; omega
      · obtain rfl : k = n := by omega
        have HF := Lib.hid (osl_rsl gMk HO.out (G := fun j => w.heap.size ≤ j) (fun j hj _ => by omega) (fun j hj => by omega))
        go_wp2
        go_ret
        exact ⟨_, rfl, HF.out, HX.out⟩
end Go.Proofs.Ytfgfdohppgoajaa
