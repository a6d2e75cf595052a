/- What was seen: what is wrong with it; is one as much; both joined. -/
import Derived.Test.YtghfmgndddjofaaN3
import Derived.Test.YtghfmgndddjofaaRow
set_option linter.unusedVariables false
set_option linter.unusedSimpArgs false
namespace Go.Proofs.Ytghfmgndddjofaa
open Go Go.RowKit Go.BigFrame Cp

def checkI (l : List Int) : Int := if l.length ≠ 5 then 1 else if l.any badI = true then 3 else 0
def bothI (l m : List Int) : Int := if checkI l ≠ 0 then checkI l else checkI m
def atI (l : List Int) (i : Nat) : Int := l[i]?.getD 0
/-- the greater one -/
def maxI (a b : Int) : Int := if a < b then b else a
def joinI (l m : List Int) : List Int := rowL (fun i => maxI (atI l i) (atI m i)) 5
def leastI (l m : List Int) : Bool := (List.range 5).all fun i => decide (atI m i ≤ atI l i)
theorem checkI_len {l : List Int} (h : l.length ≠ 5) : checkI l = 1 := by unfold checkI; rw [if_pos h]
theorem checkI_bad {l : List Int} (h : l.length = 5) (h2 : l.any badI = true) : checkI l = 3 := by unfold checkI; rw [if_neg (by simpa using h), if_pos h2]
theorem checkI_ok {l : List Int} (h : l.length = 5) (h2 : l.any badI = false) : checkI l = 0 := by unfold checkI; rw [if_neg (by simpa using h), if_neg (by rw [h2]; simp)]
theorem checkI_five {l : List Int} (h : checkI l = 0) : l.length = 5 ∧ l.any badI = false := by
  unfold checkI at h
  by_cases h1 : l.length ≠ 5
  · rw [if_pos h1] at h; omega
  · rw [if_neg h1] at h
    refine ⟨by omega, ?_⟩
    cases g : l.any badI with
    | false => rfl
    | true => rw [g] at h; simp at h
theorem bothI_ok {l m : List Int} (h : bothI l m = 0) : checkI l = 0 ∧ checkI m = 0 := by
  unfold bothI at h
  by_cases h1 : checkI l ≠ 0
  · rw [if_pos h1] at h; exact absurd h h1
  · rw [if_neg h1] at h; exact ⟨by omega, h⟩
theorem atI_of {l : List Int} {i : Nat} {x : Int} (h : l[i]? = some x) : x = atI l i := by unfold atI; rw [h]; rfl
theorem row_ofI {l : List Int} {n : Nat} (h : l.length = n) : l = rowL (atI l) n := by
  apply List.ext_getElem?
  intro i
  by_cases hi : i < n
  · rw [rowL_get hi]
    unfold atI
    rw [List.getElem?_eq_getElem (by omega)]; rfl
  · rw [List.getElem?_eq_none (by omega), List.getElem?_eq_none (by rw [rowL_len]; omega)]
theorem all_step {p : Nat → Bool} {k : Nat} : (List.range (k + 1)).all p = ((List.range k).all p && p k) := by rw [List.range_succ, List.all_append]; simp
theorem all_not {p : Nat → Bool} {k n : Nat} (hk : k < n) (h : p k = false) : (List.range n).all p = false := by
  rw [List.all_eq_false]
  exact ⟨k, List.mem_range.2 hk, by rw [h]; simp⟩

set_option maxRecDepth 100000 in
set_option maxHeartbeats 4000000 in
theorem checkI_any {F : Nat → Prop} {w : World} {v : Value} {l : List Int} (h : RSl RInt 1 F w v l) :
    Calls Try.prog 19 #[v] w fun e w' => e = .returned (.int .i64 (checkI l)) ∧ Ext w w' := by
  have HC := Lib.hid (fun (W : World) (hx : Ext w W) => containsIntS_any (h.ext gInt hx))
  obtain ⟨a, n, c, rfl⟩ := h.slice
  obtain ⟨rfl, _, _⟩ := h.len
  clear h
  by_cases h5 : l.length = 5
  · have t5 : ((l.length : Int) != 5) = false := by rw [h5]; rfl
    cases g : l.any badI with
    | true =>
      rw [checkI_bad h5 g]
      rw [g] at HC
      clear h5
      go_enter Try.func19, Try.ntmps19
      go_wp2_with (go_at_call 57; go_must ((with_reducible refine (HC.out _ (by repeat (first | (with_reducible exact ext_refl _) | (with_reducible assumption) | (with_reducible refine ext_drew ?_) | (with_reducible refine ext_drewN ?_ _) | (with_reducible refine ext_alloc ?_ _) | (with_reducible refine ext_set ?_ (by first | omega | (simp <;> omega)) _) | (with_reducible refine ext_trans ?_ (by with_reducible assumption))))).mono ?_); rintro e w1 ⟨rfl, hx1⟩))
      go_ret
      exact ⟨rfl, (by repeat (first | (with_reducible exact ext_refl _) | (with_reducible assumption) | (with_reducible refine ext_drew ?_) | (with_reducible refine ext_drewN ?_ _) | (with_reducible refine ext_alloc ?_ _) | (with_reducible refine ext_set ?_ (by first | omega | (simp <;> omega)) _) | (with_reducible refine ext_trans ?_ (by with_reducible assumption))))⟩
    | false =>
      rw [checkI_ok h5 g]
      rw [g] at HC
      clear h5
      go_enter Try.func19, Try.ntmps19
      go_wp2_with (go_at_call 57; go_must ((with_reducible refine (HC.out _ (by repeat (first | (with_reducible exact ext_refl _) | (with_reducible assumption) | (with_reducible refine ext_drew ?_) | (with_reducible refine ext_drewN ?_ _) | (with_reducible refine ext_alloc ?_ _) | (with_reducible refine ext_set ?_ (by first | omega | (simp <;> omega)) _) | (with_reducible refine ext_trans ?_ (by with_reducible assumption))))).mono ?_); rintro e w1 ⟨rfl, hx1⟩))
      go_ret
      exact ⟨rfl, (by repeat (first | (with_reducible exact ext_refl _) | (with_reducible assumption) | (with_reducible refine ext_drew ?_) | (with_reducible refine ext_drewN ?_ _) | (with_reducible refine ext_alloc ?_ _) | (with_reducible refine ext_set ?_ (by first | omega | (simp <;> omega)) _) | (with_reducible refine ext_trans ?_ (by with_reducible assumption))))⟩
  · rw [checkI_len h5]
    have t5 : ((l.length : Int) != 5) = true := by rw [bne_iff_ne]; omega
    clear h5
    go_enter Try.func19, Try.ntmps19
    go_wp2
    go_ret
    exact ⟨rfl, ext_refl _⟩
set_option maxRecDepth 100000 in
set_option maxHeartbeats 4000000 in
theorem checkSeen_any {F : Nat → Prop} {w : World} {v : Value} {l : List Int} (h : RSl RInt 1 F w v l) :
    Calls Try.prog 15 #[v] w fun e w' => e = .returned (.int .i64 (checkI l)) ∧ w = w' := by
  have HL := Lib.hid h
  obtain ⟨a, n, c, rfl⟩ := h.slice
  obtain ⟨rfl, _, _⟩ := h.len
  clear h
  by_cases h5 : l.length = 5
  · have t5 : ((l.length : Int) != 5) = false := by rw [h5]; rfl
    have H5 := Lib.hid h5
    clear h5
    go_enter Try.func15, Try.ntmps15
    go_wp2
    go_loop [3] (fun i => ∃ k : Nat, k ≤ 5 ∧ i = .int .i64 k ∧ Hid ((l.take k).any badI = false)) (fun i => 5 - (intOf i).toNat)
    case atStart => exact ⟨0, by omega, rfl, Lib.hid (by simp)⟩
    case round =>
      obtain ⟨k, hk, rfl, HI⟩ := hrel
      by_cases hlt : k < 5
      · have hkl : k < l.length := by have := H5.out; omega
        obtain ⟨b, o, x, rfl, hb, e1, _, ca⟩ := int_at HL.out hkl
        have HA := Lib.hid (anyp_step (p := badI) e1)
        clear e1
        cases g : inB x 0 500 with
        | true =>
          have HN := Lib.hid (show (l.take (k + 1)).any badI = false by rw [HA.out, HI.out]; unfold badI; rw [g]; rfl)
          go_wp2_with (go_at_call 54; (with_reducible refine (between_any _ _ _ _).mono ?_); rintro e w' ⟨rfl, rfl⟩)
          go_round
          case rel => exact ⟨k + 1, by omega, by go_num, HN⟩
          case measure => simp [intOf]; omega
        | false =>
          have HC := Lib.hid (checkI_bad H5.out (anyp_of_take (k := k + 1) (by rw [HA.out, HI.out]; unfold badI; rw [g]; rfl)))
          go_wp2_with (go_at_call 54; (with_reducible refine (between_any _ _ _ _).mono ?_); rintro e w' ⟨rfl, rfl⟩)
          go_ret
          exact ⟨ri HC.out.symm, rfl⟩
      · have hk5 : l.length ≤ k := by have := H5.out; omega
        have hi := HI.out
        rw [List.take_of_length_le hk5] at hi
        have HC := Lib.hid (checkI_ok H5.out hi)
        clear hk5 hi HI
        go_wp2
        go_ret
        exact ⟨ri HC.out.symm, rfl⟩
  · rw [checkI_len h5]
    have t5 : ((l.length : Int) != 5) = true := by rw [bne_iff_ne]; omega
    clear h5
    go_enter Try.func15, Try.ntmps15
    go_wp2
    go_ret
    exact ⟨rfl, rfl⟩
set_option maxRecDepth 100000 in
set_option maxHeartbeats 4000000 in
theorem bothI_any {F G : Nat → Prop} {w : World} {v u : Value} {l m : List Int} (h : RSl RInt 1 F w v l) (k : RSl RInt 1 G w u m) :
    Calls Try.prog 50 #[v, u] w fun e w' => e = .returned (.int .i64 (bothI l m)) ∧ Ext w w' := by
  have HL := Lib.hid (fun (W : World) (hx : Ext w W) => checkI_any (h.ext gInt hx))
  have HM := Lib.hid (fun (W : World) (hx : Ext w W) => checkI_any (k.ext gInt hx))
  obtain ⟨a, n, c, rfl⟩ := h.slice
  obtain ⟨a2, n2, c2, rfl⟩ := k.slice
  clear h k
  unfold bothI
  by_cases h0 : checkI l = 0
  · rw [if_neg (by simpa using h0)]
    rw [h0] at HL
    clear h0
    go_enter Try.func50, Try.ntmps50
    go_wp2_with (first
      | (go_at_call 19; (with_reducible refine (HL.out _ (by repeat (first | (with_reducible exact ext_refl _) | (with_reducible assumption) | (with_reducible refine ext_drew ?_) | (with_reducible refine ext_drewN ?_ _) | (with_reducible refine ext_alloc ?_ _) | (with_reducible refine ext_set ?_ (by first | omega | (simp <;> omega)) _) | (with_reducible refine ext_trans ?_ (by with_reducible assumption))))).mono ?_); rintro e w1 ⟨rfl, hx1⟩; clear HL)
      | (go_at_call 19; (with_reducible refine (HM.out _ (by repeat (first | (with_reducible exact ext_refl _) | (with_reducible assumption) | (with_reducible refine ext_drew ?_) | (with_reducible refine ext_drewN ?_ _) | (with_reducible refine ext_alloc ?_ _) | (with_reducible refine ext_set ?_ (by first | omega | (simp <;> omega)) _) | (with_reducible refine ext_trans ?_ (by with_reducible assumption))))).mono ?_); rintro e w2 ⟨rfl, hx2⟩))
    go_ret
    exact ⟨rfl, (by repeat (first | (with_reducible exact ext_refl _) | (with_reducible assumption) | (with_reducible refine ext_drew ?_) | (with_reducible refine ext_drewN ?_ _) | (with_reducible refine ext_alloc ?_ _) | (with_reducible refine ext_set ?_ (by first | omega | (simp <;> omega)) _) | (with_reducible refine ext_trans ?_ (by with_reducible assumption))))⟩
  · rw [if_pos h0]
    have t1 : (checkI l != 0) = true := by simpa using h0
    generalize checkI l = r at *
    clear h0
    go_enter Try.func50, Try.ntmps50
    go_wp2_with (first
      | (go_at_call 19; (with_reducible refine (HL.out _ (by repeat (first | (with_reducible exact ext_refl _) | (with_reducible assumption) | (with_reducible refine ext_drew ?_) | (with_reducible refine ext_drewN ?_ _) | (with_reducible refine ext_alloc ?_ _) | (with_reducible refine ext_set ?_ (by first | omega | (simp <;> omega)) _) | (with_reducible refine ext_trans ?_ (by with_reducible assumption))))).mono ?_); rintro e w1 ⟨rfl, hx1⟩; clear HL))
    go_ret
    exact ⟨rfl, (by repeat (first | (with_reducible exact ext_refl _) | (with_reducible assumption) | (with_reducible refine ext_drew ?_) | (with_reducible refine ext_drewN ?_ _) | (with_reducible refine ext_alloc ?_ _) | (with_reducible refine ext_set ?_ (by first | omega | (simp <;> omega)) _) | (with_reducible refine ext_trans ?_ (by with_reducible assumption))))⟩
theorem leastCmp_any (a b : Int) (w : World) : Calls Try.prog 100 #[.int .i64 a, .int .i64 b] w fun e w' => e = .returned (.bool (decide (b ≤ a))) ∧ w = w' := by
  go_enter Try.func100, Try.ntmps100
  go_wp2
  go_ret
  exact ⟨rfl, rfl⟩
set_option maxRecDepth 100000 in
set_option maxHeartbeats 4000000 in
theorem allI_any {F G : Nat → Prop} {w : World} {v u : Value} {l m : List Int} (h : RSl RInt 1 F w v l) (k : RSl RInt 1 G w u m) (h5 : l.length = 5) (k5 : m.length = 5) :
    Calls Try.prog 99 #[v, u, .func (.func 100) #[] #[]] w fun e w' => e = .returned (.bool (leastI l m)) ∧ Ext w w' := by
  have HL := Lib.hid (fun (W : World) (hx : Ext w W) => h.ext gInt hx)
  have HM := Lib.hid (fun (W : World) (hx : Ext w W) => k.ext gInt hx)
  obtain ⟨a, n, c, rfl⟩ := h.slice
  obtain ⟨a2, n2, c2, rfl⟩ := k.slice
  obtain rfl : n = 5 := h.len.1.trans h5
  obtain rfl : n2 = 5 := k.len.1.trans k5
  clear h k
  go_enter Try.func99, Try.ntmps99
  go_wp2
  go_loopw [10] (fun i wr => ∃ q : Nat, q ≤ 5 ∧ i = .int .i64 q ∧ Hid ((List.range q).all (fun i => decide (atI m i ≤ atI l i)) = true) ∧ Ext w wr) (fun i _ => 5 - (intOf i).toNat)
  case atStart => exact ⟨0, by omega, rfl, Lib.hid (by simp), ext_refl _⟩
  case round =>
    obtain ⟨q, hq, rfl, HI, hx⟩ := hrel
    have HX := Lib.hid hx
    clear hx
    by_cases hlt : q < 5
    · obtain ⟨b, o, x, rfl, hb, e1, _, ca⟩ := int_at (HL.out wr HX.out) hlt
      obtain ⟨b2, o2, y, rfl, hb2, e2, _, ca2⟩ := int_at (HM.out wr HX.out) hlt
      have hxx := atI_of e1
      have hyy := atI_of e2
      clear e1 e2
      by_cases g : y ≤ x
      · have t1 : decide (y ≤ x) = true := decide_eq_true g
        have HN := Lib.hid (show (List.range (q + 1)).all (fun i => decide (atI m i ≤ atI l i)) = true by rw [all_step, HI.out, ← hxx, ← hyy, t1]; rfl)
        clear hxx hyy g
        go_wp2_with fail
        refine wp_name (fun W2 eW2 => ?_)
        have e0 : W2.cell? ⟨b, o + q, none⟩ = some (.int .i64 x) := by rw [eW2]; go_simp
        have e1 : W2.cell? ⟨b2, o2 + q, none⟩ = some (.int .i64 y) := by rw [eW2]; go_simp
        have zW2_0 : b < W2.heap.size := by rw [eW2]; first | assumption | omega | (simp <;> omega)
        have zW2_1 : b2 < W2.heap.size := by rw [eW2]; first | assumption | omega | (simp <;> omega)
        have hw2 : Ext wr W2 := by rw [eW2]; exact (by repeat (first | (with_reducible exact ext_refl _) | (with_reducible assumption) | (with_reducible refine ext_drew ?_) | (with_reducible refine ext_drewN ?_ _) | (with_reducible refine ext_alloc ?_ _) | (with_reducible refine ext_set ?_ (by first | omega | (simp <;> omega)) _) | (with_reducible refine ext_trans ?_ (by with_reducible assumption))))
        clear eW2
        refine wp_region_later fol (by kernel_rfl) (fun hlater => ?_)
        repeat (go_big_quiet_step ((first
            | (go_at_call 100; (with_reducible exact later_same (leastCmp_any _ _ _))))))
        refine wpQuiet_nil ?_
        rintro w3 ⟨⟨w3x, hx3⟩, rfl⟩
        clear hlater
        go_wp2_with fail
        go_roundw
        case rel => exact ⟨q + 1, by omega, by go_num, HN, ext_trans HX.out (ext_trans hw2 hx3)⟩
        case measure => simp [intOf]; omega
      · have t1 : decide (y ≤ x) = false := decide_eq_false g
        have HC := Lib.hid (show leastI l m = false from all_not (k := q) hlt (by rw [← hxx, ← hyy, t1]))
        clear hxx hyy g
        go_wp2_with fail
        refine wp_name (fun W2 eW2 => ?_)
        have e0 : W2.cell? ⟨b, o + q, none⟩ = some (.int .i64 x) := by rw [eW2]; go_simp
        have e1 : W2.cell? ⟨b2, o2 + q, none⟩ = some (.int .i64 y) := by rw [eW2]; go_simp
        have zW2_0 : b < W2.heap.size := by rw [eW2]; first | assumption | omega | (simp <;> omega)
        have zW2_1 : b2 < W2.heap.size := by rw [eW2]; first | assumption | omega | (simp <;> omega)
        have hw2 : Ext wr W2 := by rw [eW2]; exact (by repeat (first | (with_reducible exact ext_refl _) | (with_reducible assumption) | (with_reducible refine ext_drew ?_) | (with_reducible refine ext_drewN ?_ _) | (with_reducible refine ext_alloc ?_ _) | (with_reducible refine ext_set ?_ (by first | omega | (simp <;> omega)) _) | (with_reducible refine ext_trans ?_ (by with_reducible assumption))))
        clear eW2
        refine wp_region_later fol (by kernel_rfl) (fun hlater => ?_)
        repeat (go_big_quiet_step ((first
            | (go_at_call 100; (with_reducible exact later_same (leastCmp_any _ _ _))))))
        refine wpQuiet_nil ?_
        rintro w3 ⟨⟨w3x, hx3⟩, rfl⟩
        clear hlater
        go_wp2_with fail
        go_ret
        exact ⟨rb HC.out.symm, ext_trans HX.out (ext_trans hw2 hx3)⟩
    · have hq5 : q = 5 := by omega
      have hi := HI.out
      rw [hq5] at hi
      have HC := Lib.hid (show leastI l m = true from hi)
      clear hq5 hi HI
      go_wp2
      go_ret
      exact ⟨rb HC.out.symm, HX.out⟩
set_option maxRecDepth 100000 in
set_option maxHeartbeats 4000000 in
theorem leastI_any {F G : Nat → Prop} {w : World} {v u : Value} {l m : List Int} (h : RSl RInt 1 F w v l) (k : RSl RInt 1 G w u m) (h5 : l.length = 5) (k5 : m.length = 5) :
    Calls Try.prog 52 #[v, u] w fun e w' => e = .returned (.bool (leastI l m)) ∧ Ext w w' := by
  have HA := Lib.hid (allI_any h k h5 k5)
  obtain ⟨a, n, c, rfl⟩ := h.slice
  obtain ⟨a2, n2, c2, rfl⟩ := k.slice
  clear h k
  go_enter Try.func52, Try.ntmps52
  go_wp2_with (go_at_call 99; go_must ((with_reducible refine HA.out.mono ?_); rintro e w1 ⟨rfl, hx1⟩))
  go_ret
  exact ⟨rfl, hx1⟩
set_option maxRecDepth 100000 in
set_option maxHeartbeats 4000000 in
theorem coversOf_any {F G : Nat → Prop} {w : World} {v u : Value} {l m : List Int} (h : RSl RInt 1 F w v l) (k : RSl RInt 1 G w u m) (h5 : l.length = 5) (k5 : m.length = 5) :
    Calls Try.prog 21 #[v, u] w fun e w' => e = .returned (.bool (leastI l m)) ∧ Ext w w' := by
  have HL := Lib.hid (fun (W : World) (hx : Ext w W) => h.ext gInt hx)
  have HM := Lib.hid (fun (W : World) (hx : Ext w W) => k.ext gInt hx)
  obtain ⟨a, n, c, rfl⟩ := h.slice
  obtain ⟨a2, n2, c2, rfl⟩ := k.slice
  obtain rfl : n = 5 := h.len.1.trans h5
  obtain rfl : n2 = 5 := k.len.1.trans k5
  clear h k
  go_enter Try.func21, Try.ntmps21
  go_wp2
  go_loopw [5] (fun i wr => ∃ q : Nat, q ≤ 5 ∧ i = .int .i64 q ∧ Hid ((List.range q).all (fun i => decide (atI m i ≤ atI l i)) = true) ∧ Ext w wr) (fun i _ => 5 - (intOf i).toNat)
  case atStart => exact ⟨0, by omega, rfl, Lib.hid (by simp), ext_refl _⟩
  case round =>
    obtain ⟨q, hq, rfl, HI, hx⟩ := hrel
    have HX := Lib.hid hx
    clear hx
    by_cases hlt : q < 5
    · obtain ⟨b, o, x, rfl, hb, e1, _, ca⟩ := int_at (HL.out wr HX.out) hlt
      obtain ⟨b2, o2, y, rfl, hb2, e2, _, ca2⟩ := int_at (HM.out wr HX.out) hlt
      have hxx := atI_of e1
      have hyy := atI_of e2
      clear e1 e2
      by_cases g : y ≤ x
      · have t1 : decide (x < y) = false := decide_eq_false (by omega)
        have HN := Lib.hid (show (List.range (q + 1)).all (fun i => decide (atI m i ≤ atI l i)) = true by rw [all_step, HI.out, ← hxx, ← hyy, decide_eq_true g]; rfl)
        clear hxx hyy g
        go_wp2_with fail
        refine wp_name (fun W2 eW2 => ?_)
        have e0 : W2.cell? ⟨b, o + q, none⟩ = some (.int .i64 x) := by rw [eW2]; go_simp
        have e1 : W2.cell? ⟨b2, o2 + q, none⟩ = some (.int .i64 y) := by rw [eW2]; go_simp
        have zW2_0 : b < W2.heap.size := by rw [eW2]; first | assumption | omega | (simp <;> omega)
        have zW2_1 : b2 < W2.heap.size := by rw [eW2]; first | assumption | omega | (simp <;> omega)
        have hw2 : Ext wr W2 := by rw [eW2]; exact (by repeat (first | (with_reducible exact ext_refl _) | (with_reducible assumption) | (with_reducible refine ext_drew ?_) | (with_reducible refine ext_drewN ?_ _) | (with_reducible refine ext_alloc ?_ _) | (with_reducible refine ext_set ?_ (by first | omega | (simp <;> omega)) _) | (with_reducible refine ext_trans ?_ (by with_reducible assumption))))
        clear eW2
        refine wp_region_later fol (by kernel_rfl) (fun hlater => ?_)
        repeat (go_big_quiet_step ((fail)))
        refine wpQuiet_nil ?_
        rintro w3 ⟨⟨w3x, hx3⟩, rfl⟩
        clear hlater
        go_wp2_with fail
        go_roundw
        case rel => exact ⟨q + 1, by omega, by go_num, HN, ext_trans HX.out (ext_trans hw2 hx3)⟩
        case measure => simp [intOf]; omega
      · have t1 : decide (x < y) = true := decide_eq_true (by omega)
        have HC := Lib.hid (show leastI l m = false from all_not (k := q) hlt (by rw [← hxx, ← hyy, decide_eq_false g]))
        clear hxx hyy g
        go_wp2_with fail
        refine wp_name (fun W2 eW2 => ?_)
        have e0 : W2.cell? ⟨b, o + q, none⟩ = some (.int .i64 x) := by rw [eW2]; go_simp
        have e1 : W2.cell? ⟨b2, o2 + q, none⟩ = some (.int .i64 y) := by rw [eW2]; go_simp
        have zW2_0 : b < W2.heap.size := by rw [eW2]; first | assumption | omega | (simp <;> omega)
        have zW2_1 : b2 < W2.heap.size := by rw [eW2]; first | assumption | omega | (simp <;> omega)
        have hw2 : Ext wr W2 := by rw [eW2]; exact (by repeat (first | (with_reducible exact ext_refl _) | (with_reducible assumption) | (with_reducible refine ext_drew ?_) | (with_reducible refine ext_drewN ?_ _) | (with_reducible refine ext_alloc ?_ _) | (with_reducible refine ext_set ?_ (by first | omega | (simp <;> omega)) _) | (with_reducible refine ext_trans ?_ (by with_reducible assumption))))
        clear eW2
        refine wp_region_later fol (by kernel_rfl) (fun hlater => ?_)
        repeat (go_big_quiet_step ((fail)))
        refine wpQuiet_nil ?_
        rintro w3 ⟨⟨w3x, hx3⟩, rfl⟩
        clear hlater
        go_wp2_with fail
        go_ret
        exact ⟨rb HC.out.symm, ext_trans HX.out (ext_trans hw2 hx3)⟩
    · have hq5 : q = 5 := by omega
      have hi := HI.out
      rw [hq5] at hi
      have HC := Lib.hid (show leastI l m = true from hi)
      clear hq5 hi HI
      go_wp2
      go_ret
      exact ⟨rb HC.out.symm, HX.out⟩
set_option maxRecDepth 100000 in
set_option maxHeartbeats 4000000 in
theorem covers_any {F G : Nat → Prop} {w : World} {v u : Value} {l m : List Int} (h : RSl RInt 1 F w v l) (k : RSl RInt 1 G w u m) :
    Calls Try.prog 13 #[v, u] w fun e w' => e = .returned (.tuple #[.bool (if bothI l m = 0 then leastI l m else false), .int .i64 (bothI l m)]) ∧ Ext w w' := by
  have HB := Lib.hid (fun (W : World) (hx : Ext w W) => bothI_any (h.ext gInt hx) (k.ext gInt hx))
  have HL := Lib.hid (fun (h5 : l.length = 5) (k5 : m.length = 5) (W : World) (hx : Ext w W) => leastI_any (h.ext gInt hx) (k.ext gInt hx) h5 k5)
  obtain ⟨a, n, c, rfl⟩ := h.slice
  obtain ⟨a2, n2, c2, rfl⟩ := k.slice
  clear h k
  by_cases h0 : bothI l m = 0
  · rw [if_pos h0, h0]
    have HK := Lib.hid (HL.out (checkI_five (bothI_ok h0).1).1 (checkI_five (bothI_ok h0).2).1)
    rw [h0] at HB
    generalize leastI l m = bb at *
    clear h0 HL
    go_enter Try.func13, Try.ntmps13
    go_wp2_with (first
      | (go_at_call 50; go_must ((with_reducible refine (HB.out _ (by repeat (first | (with_reducible exact ext_refl _) | (with_reducible assumption) | (with_reducible refine ext_drew ?_) | (with_reducible refine ext_drewN ?_ _) | (with_reducible refine ext_alloc ?_ _) | (with_reducible refine ext_set ?_ (by first | omega | (simp <;> omega)) _) | (with_reducible refine ext_trans ?_ (by with_reducible assumption))))).mono ?_); rintro e w1 ⟨rfl, hx1⟩))
      | (go_at_call 52; go_must ((with_reducible refine (HK.out _ (by repeat (first | (with_reducible exact ext_refl _) | (with_reducible assumption) | (with_reducible refine ext_drew ?_) | (with_reducible refine ext_drewN ?_ _) | (with_reducible refine ext_alloc ?_ _) | (with_reducible refine ext_set ?_ (by first | omega | (simp <;> omega)) _) | (with_reducible refine ext_trans ?_ (by with_reducible assumption))))).mono ?_); rintro e w2 ⟨rfl, hx2⟩)))
    refine bodyPost_ret (v := .tuple #[.bool bb, .int .i64 0]) (by simp [results, Try.results13, go_sem]) rfl ⟨rfl, (by repeat (first | (with_reducible exact ext_refl _) | (with_reducible assumption) | (with_reducible refine ext_drew ?_) | (with_reducible refine ext_drewN ?_ _) | (with_reducible refine ext_alloc ?_ _) | (with_reducible refine ext_set ?_ (by first | omega | (simp <;> omega)) _) | (with_reducible refine ext_trans ?_ (by with_reducible assumption))))⟩
  · rw [if_neg h0]
    have t1 : (bothI l m != 0) = true := by simpa using h0
    generalize bothI l m = r at *
    clear h0 HL
    go_enter Try.func13, Try.ntmps13
    go_wp2_with (first
      | (go_at_call 50; go_must ((with_reducible refine (HB.out _ (by repeat (first | (with_reducible exact ext_refl _) | (with_reducible assumption) | (with_reducible refine ext_drew ?_) | (with_reducible refine ext_drewN ?_ _) | (with_reducible refine ext_alloc ?_ _) | (with_reducible refine ext_set ?_ (by first | omega | (simp <;> omega)) _) | (with_reducible refine ext_trans ?_ (by with_reducible assumption))))).mono ?_); rintro e w1 ⟨rfl, hx1⟩)))
    refine bodyPost_ret (v := .tuple #[.bool false, .int .i64 r]) (by simp [results, Try.results13, go_sem]) rfl ⟨rfl, (by repeat (first | (with_reducible exact ext_refl _) | (with_reducible assumption) | (with_reducible refine ext_drew ?_) | (with_reducible refine ext_drewN ?_ _) | (with_reducible refine ext_alloc ?_ _) | (with_reducible refine ext_set ?_ (by first | omega | (simp <;> omega)) _) | (with_reducible refine ext_trans ?_ (by with_reducible assumption))))⟩
end Go.Proofs.Ytghfmgndddjofaa
