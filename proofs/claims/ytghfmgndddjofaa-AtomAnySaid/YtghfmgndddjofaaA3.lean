/- The place of a mark among atoms in order. -/
import Derived.Test.YtghfmgndddjofaaA2
set_option linter.unusedVariables false
set_option linter.unusedSimpArgs false
namespace Go.Proofs.Ytghfmgndddjofaa
open Go Go.RowKit Go.BigFrame Cp

theorem sortedA_lt : ∀ {l : List At}, SortedA l → ∀ (j : Nat) (a b : At) (i : Nat), i < j → l[i]? = some a → l[j]? = some b → ordM a.1 b.1 = -1
  | [], _, j, a, b, i, _, h, _ => by simp at h
  | [x], _, j, a, b, i, hij, _, h => by
    cases j with
    | zero => omega
    | succ j => simp at h
  | x :: y :: r, hs, j, a, b, i, hij, h1, h2 => by
    obtain ⟨hxy, hr⟩ := hs
    cases j with
    | zero => omega
    | succ j =>
      cases i with
      | succ i => exact sortedA_lt hr j a b i (by omega) (by simpa using h1) (by simpa using h2)
      | zero =>
        have e : x = a := by simpa using h1
        subst e
        have h2' : (y :: r)[j]? = some b := by simpa using h2
        cases j with
        | zero => have e : y = b := by simpa using h2'
                  subst e; exact hxy
        | succ j => exact ordM_trans hxy (sortedA_lt hr (j + 1) y b 0 (by omega) rfl h2')
/-- how many stand ahead of a mark -/
def placeA (l : List At) (m : Mk) : Nat := l.countP fun a => decide (ordM a.1 m < 0)
theorem placeA_le (l : List At) (m : Mk) : placeA l m ≤ l.length := List.countP_le_length
theorem placeA_is {l : List At} {m : Mk} {n : Nat} (hn : n ≤ l.length) (h1 : ∀ t a, l[t]? = some a → t < n → ordM a.1 m < 0) (h2 : ∀ t a, l[t]? = some a → n ≤ t → ¬ ordM a.1 m < 0) : placeA l m = n := by
  unfold placeA
  rw [← List.take_append_drop n l, List.countP_append]
  have e1 : (l.take n).countP (fun a => decide (ordM a.1 m < 0)) = (l.take n).length := by
    rw [List.countP_eq_length]
    intro a ha
    obtain ⟨t, ht, e⟩ := List.mem_iff_getElem.1 ha
    have ht' : t < n := by rw [List.length_take] at ht; omega
    exact decide_eq_true (h1 t a (by rw [← List.getElem?_take_of_lt ht', List.getElem?_eq_getElem ht, e]) ht')
  have e2 : (l.drop n).countP (fun a => decide (ordM a.1 m < 0)) = 0 := by
    rw [List.countP_eq_zero]
    intro a ha
    obtain ⟨t, ht, e⟩ := List.mem_iff_getElem.1 ha
    have := h2 (n + t) a (by rw [← List.getElem?_drop, List.getElem?_eq_getElem ht, e]) (by omega)
    simpa using this
  rw [e1, e2, List.length_take]; omega
/-- how far a search between two places has come -/
def Halves (l : List At) (m : Mk) (i j : Nat) : Prop := i ≤ j ∧ j ≤ l.length ∧ (∀ t a, l[t]? = some a → t < i → ordM a.1 m < 0) ∧ ∀ t a, l[t]? = some a → j ≤ t → ¬ ordM a.1 m < 0
theorem halves_start (l : List At) (m : Mk) : Halves l m 0 l.length :=
  ⟨Nat.zero_le _, Nat.le_refl _, fun t a _ h => by omega, fun t a h ht => by rw [List.getElem?_eq_none ht] at h; cases h⟩
theorem halves_low {l : List At} {m : Mk} {i j h : Nat} {a : At} (hs : SortedA l) (hh : Halves l m i j) (h1 : h < j) (e : l[h]? = some a) (ho : ordM a.1 m < 0) : Halves l m (h + 1) j := by
  refine ⟨by omega, hh.2.1, fun t b hb ht => ?_, hh.2.2.2⟩
  by_cases h2 : t = h
  · subst h2
    have : a = b := by rw [e] at hb; simpa using hb
    subst this; exact ho
  · exact ordM_lt.2 (ordM_trans (sortedA_lt hs h b a t (by omega) hb e) (ordM_lt.1 ho))
theorem halves_high {l : List At} {m : Mk} {i j h : Nat} {a : At} (hs : SortedA l) (hh : Halves l m i j) (h0 : i ≤ h) (h1 : h < j) (e : l[h]? = some a) (ho : ¬ ordM a.1 m < 0) : Halves l m i h := by
  refine ⟨h0, by have := hh.2.1; omega, hh.2.2.1, fun t b hb ht hlt => ?_⟩
  by_cases h2 : t = h
  · subst h2
    have : a = b := by rw [e] at hb; simpa using hb
    subst this; exact ho hlt
  · exact ho (ordM_lt.2 (ordM_trans (sortedA_lt hs t a b h (by omega) e hb) (ordM_lt.1 hlt)))
theorem halves_end {l : List At} {m : Mk} {i : Nat} (hh : Halves l m i i) : placeA l m = i := placeA_is hh.2.1 hh.2.2.1 hh.2.2.2
theorem hasM_far {l : List At} {m : Mk} {i : Nat} (hh : Halves l m i i) (h : l.length ≤ i) : hasM l m = false := by
  unfold hasM
  rw [List.any_eq_false]
  intro a ha
  obtain ⟨t, ht, e⟩ := List.mem_iff_getElem.1 ha
  have := hh.2.2.1 t a (by rw [List.getElem?_eq_getElem ht, e]) (by omega)
  simp; omega
theorem hasM_near {l : List At} {m : Mk} {i : Nat} {a : At} (hs : SortedA l) (hh : Halves l m i i) (e : l[i]? = some a) : hasM l m = (ordM a.1 m == 0) := by
  cases h : (ordM a.1 m == 0) with
  | true =>
    unfold hasM
    rw [List.any_eq_true]
    exact ⟨a, List.mem_of_getElem? e, by simpa using h⟩
  | false =>
    unfold hasM
    rw [List.any_eq_false]
    intro b hb
    obtain ⟨t, ht, e2⟩ := List.mem_iff_getElem.1 hb
    have e3 : l[t]? = some b := by rw [List.getElem?_eq_getElem ht, e2]
    have h0 : ¬ ordM a.1 m = 0 := by simpa using h
    have hr := ordM_range a.1 m
    have h1 := hh.2.2.2 i a e (Nat.le_refl _)
    simp only [decide_eq_true_eq]
    intro hz
    have hbm := ordM_zero.1 hz
    rcases Nat.lt_trichotomy t i with hlt | rfl | hgt
    · have := hh.2.2.1 t b e3 hlt; omega
    · rw [e] at e3
      have : a = b := by simpa using e3
      subst this; exact h0 hz
    · have := sortedA_lt hs t a b i hgt e e3
      rw [hbm] at this; omega

def IsFound (n : Nat) (b : Bool) (w : World) (e : Ending) (w' : World) : Prop := e = .returned (.tuple #[.int .i64 n, .bool b]) ∧ Ext w w'
set_option maxRecDepth 100000 in
set_option maxHeartbeats 4000000 in
theorem findCmp_any {F G : Nat → Prop} {w : World} {cs ds : List Value} {a : At} {m : Mk} (ha : RAt F w cs a) (hb : RMk G w ds m) :
    Calls Try.prog 139 #[.agg cs.toArray, .agg ds.toArray] w fun e w' => e = .returned (.int .i64 (ordM a.1 m)) ∧ Ext w w' := by
  obtain ⟨v, rfl, hl, ic⟩ := ha
  obtain ⟨u, rfl, hm, id⟩ := hb
  obtain ⟨⟨l, c⟩, s⟩ := a
  obtain ⟨m, d⟩ := m
  simp only at hl hm ic id ⊢
  obtain ⟨a1, n1, c1, rfl⟩ := hl.slice
  obtain ⟨a2, n2, c2, rfl⟩ := hm.slice
  have HO := Lib.hid (fun (W : World) (hx : Ext w W) => order_any (rmk_of' (hl.ext gStp hx) ic) (rmk_of' (hm.ext gStp hx) id))
  clear hl hm ic id
  go_enter Try.func139, Try.ntmps139
  go_wp2_with (go_at_call 86; go_must ((with_reducible refine (HO.out _ (by repeat (first | (with_reducible exact ext_refl _) | (with_reducible assumption) | (with_reducible refine ext_drew ?_) | (with_reducible refine ext_drewN ?_ _) | (with_reducible refine ext_alloc ?_ _) | (with_reducible refine ext_set ?_ (by first | omega | (simp <;> omega)) _) | (with_reducible refine ext_trans ?_ (by with_reducible assumption))))).mono ?_); rintro e w1 ⟨rfl, hx1⟩))
  go_ret
  exact ⟨rfl, (by repeat (first | (with_reducible exact ext_refl _) | (with_reducible assumption) | (with_reducible refine ext_drew ?_) | (with_reducible refine ext_drewN ?_ _) | (with_reducible refine ext_alloc ?_ _) | (with_reducible refine ext_set ?_ (by first | omega | (simp <;> omega)) _) | (with_reducible refine ext_trans ?_ (by with_reducible assumption))))⟩

set_option maxRecDepth 100000 in
set_option maxHeartbeats 4000000 in
theorem search_any {F G : Nat → Prop} {w : World} {v : Value} {ds : List Value} {l : List At} {m : Mk} (hl : RSl RAt 3 F w v l) (hm : RMk G w ds m) (hs : SortedA l) (hn : l.length ≤ 1000000) :
    Calls Try.prog 138 #[v, .agg ds.toArray, .func (.func 139) #[] #[]] w (IsFound (placeA l m) (hasM l m) w) := by
  obtain ⟨a0, n0, c0, rfl⟩ := hl.slice
  obtain ⟨rfl, _, _⟩ := hl.len
  have HMX := Lib.hid (fun (W : World) (hx : Ext w W) => gMk.ext hm hx)
  obtain ⟨u, rfl, hm, _⟩ := hm
  obtain ⟨m, d⟩ := m
  simp only at hm HMX ⊢
  obtain ⟨a2, n2, c2, rfl⟩ := hm.slice
  have HL := Lib.hid hl
  have HS := Lib.hid hs
  clear hl hm hs
  go_enter Try.func138, Try.ntmps138
  go_wp2
  go_loopw [9, 10] (fun iv jv wr => ∃ i j : Nat, i ≤ j ∧ j ≤ l.length ∧ iv = .int .i64 i ∧ jv = .int .i64 j ∧ Hid (Halves l (m, d) i j) ∧ Ext (w.alloc (.cells #[.slice a2 n2 c2, .int .i64 d] 75)) wr) (fun iv jv _ => (intOf jv).toNat - (intOf iv).toNat)
  case atStart => exact ⟨0, l.length, Nat.zero_le _, Nat.le_refl _, rfl, rfl, Lib.hid (halves_start _ _), ext_refl _⟩
  case round =>
    obtain ⟨i, j, hij, hjl, rfl, rfl, HH, hx⟩ := hrel
    have hw : Ext w wr := ext_trans (ext_alloc (ext_refl _) _) hx
    have z1 : wr.cell? ⟨w.heap.size, 0, none⟩ = some (.slice a2 n2 c2) := (hx.cells _ _ (by simp <;> omega)).trans (by go_simp)
    have z2 : wr.cell? ⟨w.heap.size, 1, none⟩ = some (.int .i64 d) := (hx.cells _ _ (by simp <;> omega)).trans (by go_simp)
    have hsz := hx.size
    (try simp at hsz)
    have hbz : w.heap.size < wr.heap.size := by omega
    have HX := Lib.hid hx
    have HW := Lib.hid hw
    clear hx hw
    by_cases hlt : i < j
    · obtain ⟨h, hh⟩ : ∃ h : Nat, h = (i + j) / 2 := ⟨_, rfl⟩
      have hlo : i ≤ h := by omega
      have hhi : h < j := by omega
      have hhl : h < l.length := by omega
      have hsh : (((i : Int) + (j : Int)) >>> 1) = (h : Int) := by rw [Int.shiftRight_eq_div_pow]; omega
      have hsn : (i + j) >>> 1 = h := by rw [Nat.shiftRight_eq_div_pow]; omega
      have hq2 : ((i : Int) + (j : Int)) / 2 = (h : Int) := by omega
      have HHH := Lib.hid hh
      clear hh
      obtain ⟨b, o, p, c, s, ap, cp, rfl, hb, ek, ick, hpp, y0, y1, y2⟩ := atm_at (HL.out.ext gAt HW.out) hhl
      have HCM := Lib.hid (fun (W : World) (hx : Ext wr W) => findCmp_any (rat_of (s := s) (hpp.ext gStp hx) ick) (HMX.out W (ext_trans HW.out hx)))
      have HEK := Lib.hid ek
      clear hpp ick ek
      by_cases g : ordM (p, c) (m, d) < 0
      · have HF := Lib.hid (halves_low HS.out HH.out hhi HEK.out g)
        have t1 : decide (ordM (p, c) (m, d) < 0) = true := decide_eq_true g
        generalize ordM (p, c) (m, d) = od at *
        clear g
        go_wp2_with fail
        refine wp_name (fun W2 eW2 => ?_)
        have e0 : W2.cell? ⟨w.heap.size, 0, none⟩ = some (.slice a2 n2 c2) := by rw [eW2]; go_simp
        have e1 : W2.cell? ⟨w.heap.size, 1, none⟩ = some (.int .i64 d) := by rw [eW2]; go_simp
        have e2 : W2.cell? ⟨b, o + h * 3, none⟩ = some (.slice ap p.length cp) := by rw [eW2]; go_simp
        have e3 : W2.cell? ⟨b, o + h * 3 + 1, none⟩ = some (.int .i64 c) := by rw [eW2]; go_simp
        have e4 : W2.cell? ⟨b, o + h * 3 + 2, none⟩ = some (.int .u8 s.toNat) := by rw [eW2]; go_simp
        have zW2_0 : b < W2.heap.size := by rw [eW2]; first | assumption | omega | (simp <;> omega)
        have zW2_1 : w.heap.size < W2.heap.size := by rw [eW2]; first | assumption | omega | (simp <;> omega)
        have hw2 : Ext wr W2 := by rw [eW2]; exact (by repeat (first | (with_reducible exact ext_refl _) | (with_reducible assumption) | (with_reducible refine ext_drew ?_) | (with_reducible refine ext_drewN ?_ _) | (with_reducible refine ext_alloc ?_ _) | (with_reducible refine ext_set ?_ (by first | omega | (simp <;> omega)) _) | (with_reducible refine ext_trans ?_ (by with_reducible assumption))))
        clear eW2
        refine wp_region_later fol (by kernel_rfl) (fun hlater => ?_)
        repeat (go_big_quiet_step ((first
            | (go_at_call 139; (with_reducible exact later_of (HCM.out _ (ext_trans hw2 (Later.ext _))))))))
        refine wpQuiet_nil ?_
        rintro w3 ⟨⟨w3x, hx3⟩, rfl⟩
        clear hlater
        go_wp2_with fail
        go_roundw
        case rel => exact ⟨h + 1, j, by omega, by omega, by go_num, rfl, HF, ext_trans HX.out (ext_trans hw2 hx3)⟩
        case measure => simp [intOf]; omega
      · have HF := Lib.hid (halves_high HS.out HH.out hlo hhi HEK.out g)
        have t1 : decide (ordM (p, c) (m, d) < 0) = false := decide_eq_false g
        generalize ordM (p, c) (m, d) = od at *
        clear g
        go_wp2_with fail
        refine wp_name (fun W2 eW2 => ?_)
        have e0 : W2.cell? ⟨w.heap.size, 0, none⟩ = some (.slice a2 n2 c2) := by rw [eW2]; go_simp
        have e1 : W2.cell? ⟨w.heap.size, 1, none⟩ = some (.int .i64 d) := by rw [eW2]; go_simp
        have e2 : W2.cell? ⟨b, o + h * 3, none⟩ = some (.slice ap p.length cp) := by rw [eW2]; go_simp
        have e3 : W2.cell? ⟨b, o + h * 3 + 1, none⟩ = some (.int .i64 c) := by rw [eW2]; go_simp
        have e4 : W2.cell? ⟨b, o + h * 3 + 2, none⟩ = some (.int .u8 s.toNat) := by rw [eW2]; go_simp
        have zW2_0 : b < W2.heap.size := by rw [eW2]; first | assumption | omega | (simp <;> omega)
        have zW2_1 : w.heap.size < W2.heap.size := by rw [eW2]; first | assumption | omega | (simp <;> omega)
        have hw2 : Ext wr W2 := by rw [eW2]; exact (by repeat (first | (with_reducible exact ext_refl _) | (with_reducible assumption) | (with_reducible refine ext_drew ?_) | (with_reducible refine ext_drewN ?_ _) | (with_reducible refine ext_alloc ?_ _) | (with_reducible refine ext_set ?_ (by first | omega | (simp <;> omega)) _) | (with_reducible refine ext_trans ?_ (by with_reducible assumption))))
        clear eW2
        refine wp_region_later fol (by kernel_rfl) (fun hlater => ?_)
        repeat (go_big_quiet_step ((first
            | (go_at_call 139; (with_reducible exact later_of (HCM.out _ (ext_trans hw2 (Later.ext _))))))))
        refine wpQuiet_nil ?_
        rintro w3 ⟨⟨w3x, hx3⟩, rfl⟩
        clear hlater
        go_wp2_with fail
        go_roundw
        case rel => exact ⟨i, h, by omega, by omega, rfl, rfl, HF, ext_trans HX.out (ext_trans hw2 hx3)⟩
        case measure => simp [intOf]; omega
    · have hji : j = i := by omega
      subst hji
      by_cases hin : j < l.length
      · obtain ⟨b, o, p, c, s, ap, cp, rfl, hb, ek, ick, hpp, y0, y1, y2⟩ := atm_at (HL.out.ext gAt HW.out) hin
        have HCM := Lib.hid (fun (W : World) (hx : Ext wr W) => findCmp_any (rat_of (s := s) (hpp.ext gStp hx) ick) (HMX.out W (ext_trans HW.out hx)))
        have HF := Lib.hid (hasM_near HS.out HH.out ek)
        have t2 : decide ((j : Int) < (l.length : Int)) = true := decide_eq_true (by omega)
        have t3 : decide (j < l.length) = true := decide_eq_true (by omega)
        clear hpp ick ek
        generalize ordM (p, c) (m, d) = od at *
        go_wp2_with fail
        refine wp_name (fun W2 eW2 => ?_)
        have e0 : W2.cell? ⟨w.heap.size, 0, none⟩ = some (.slice a2 n2 c2) := by rw [eW2]; go_simp
        have e1 : W2.cell? ⟨w.heap.size, 1, none⟩ = some (.int .i64 d) := by rw [eW2]; go_simp
        have e2 : W2.cell? ⟨b, o + j * 3, none⟩ = some (.slice ap p.length cp) := by rw [eW2]; go_simp
        have e3 : W2.cell? ⟨b, o + j * 3 + 1, none⟩ = some (.int .i64 c) := by rw [eW2]; go_simp
        have e4 : W2.cell? ⟨b, o + j * 3 + 2, none⟩ = some (.int .u8 s.toNat) := by rw [eW2]; go_simp
        have zW2_0 : b < W2.heap.size := by rw [eW2]; first | assumption | omega | (simp <;> omega)
        have zW2_1 : w.heap.size < W2.heap.size := by rw [eW2]; first | assumption | omega | (simp <;> omega)
        have hw2 : Ext wr W2 := by rw [eW2]; exact (by repeat (first | (with_reducible exact ext_refl _) | (with_reducible assumption) | (with_reducible refine ext_drew ?_) | (with_reducible refine ext_drewN ?_ _) | (with_reducible refine ext_alloc ?_ _) | (with_reducible refine ext_set ?_ (by first | omega | (simp <;> omega)) _) | (with_reducible refine ext_trans ?_ (by with_reducible assumption))))
        clear eW2
        refine wp_region_later fol (by kernel_rfl) (fun hlater => ?_)
        repeat (go_big_quiet_step ((first
            | (go_at_call 139; (with_reducible exact later_of (HCM.out _ (ext_trans hw2 (Later.ext _))))))))
        refine wpQuiet_nil ?_
        rintro w3 ⟨⟨w3x, hx3⟩, rfl⟩
        clear hlater
        go_wp2_with fail
        refine bodyPost_ret (v := .tuple #[.int .i64 (j : Nat), .bool (od == 0)]) (by simp [results, Try.results138, go_sem]) rfl ⟨by rw [halves_end HH.out, HF.out], ext_trans HW.out (ext_trans hw2 hx3)⟩
      · have HF := Lib.hid (hasM_far HH.out (by omega))
        have t2 : decide ((j : Int) < (l.length : Int)) = false := decide_eq_false (by omega)
        have t3 : decide (j < l.length) = false := decide_eq_false (by omega)
        go_wp2_with fail
        refine wp_name (fun W2 eW2 => ?_)
        have e0 : W2.cell? ⟨w.heap.size, 0, none⟩ = some (.slice a2 n2 c2) := by rw [eW2]; go_simp
        have e1 : W2.cell? ⟨w.heap.size, 1, none⟩ = some (.int .i64 d) := by rw [eW2]; go_simp
        have zW2_0 : w.heap.size < W2.heap.size := by rw [eW2]; first | assumption | omega | (simp <;> omega)
        have hw2 : Ext wr W2 := by rw [eW2]; exact (by repeat (first | (with_reducible exact ext_refl _) | (with_reducible assumption) | (with_reducible refine ext_drew ?_) | (with_reducible refine ext_drewN ?_ _) | (with_reducible refine ext_alloc ?_ _) | (with_reducible refine ext_set ?_ (by first | omega | (simp <;> omega)) _) | (with_reducible refine ext_trans ?_ (by with_reducible assumption))))
        clear eW2
        refine wp_region_later fol (by kernel_rfl) (fun hlater => ?_)
        repeat (go_big_quiet_step ((fail)))
        refine wpQuiet_nil ?_
        rintro w3 ⟨⟨w3x, hx3⟩, rfl⟩
        clear hlater
        go_wp2_with fail
        refine bodyPost_ret (v := .tuple #[.int .i64 (j : Nat), .bool false]) (by simp [results, Try.results138, go_sem]) rfl ⟨by rw [halves_end HH.out, HF.out], ext_trans HW.out (ext_trans hw2 hx3)⟩

set_option maxRecDepth 100000 in
set_option maxHeartbeats 4000000 in
theorem findA_any {F G : Nat → Prop} {w : World} {v : Value} {ds : List Value} {l : List At} {m : Mk} (hl : RSl RAt 3 F w v l) (hm : RMk G w ds m) (hs : SortedA l) (hn : l.length ≤ 1000000) :
    Calls Try.prog 119 #[v, .agg ds.toArray] w (IsFound (placeA l m) (hasM l m) w) := by
  have HF := Lib.hid (fun (W : World) (hx : Ext w W) => search_any (hl.ext gAt hx) (gMk.ext hm hx) hs hn)
  obtain ⟨a0, n0, c0, rfl⟩ := hl.slice
  obtain ⟨u, rfl, hm, _⟩ := hm
  obtain ⟨m, d⟩ := m
  simp only at hm HF ⊢
  obtain ⟨a2, n2, c2, rfl⟩ := hm.slice
  generalize placeA l (m, d) = n at HF ⊢
  generalize hasM l (m, d) = b at HF ⊢
  clear hl hm hs
  go_enter Try.func119, Try.ntmps119
  go_wp2_with (go_at_call 138; go_must ((with_reducible refine (HF.out _ (by repeat (first | (with_reducible exact ext_refl _) | (with_reducible assumption) | (with_reducible refine ext_drew ?_) | (with_reducible refine ext_drewN ?_ _) | (with_reducible refine ext_alloc ?_ _) | (with_reducible refine ext_set ?_ (by first | omega | (simp <;> omega)) _) | (with_reducible refine ext_trans ?_ (by with_reducible assumption))))).mono ?_); rintro e w1 ⟨rfl, hx1⟩))
  refine bodyPost_ret (v := .tuple #[.int .i64 (n : Nat), .bool b]) (by simp [results, Try.results119, go_sem]) rfl ⟨rfl, (by repeat (first | (with_reducible exact ext_refl _) | (with_reducible assumption) | (with_reducible refine ext_drew ?_) | (with_reducible refine ext_drewN ?_ _) | (with_reducible refine ext_alloc ?_ _) | (with_reducible refine ext_set ?_ (by first | omega | (simp <;> omega)) _) | (with_reducible refine ext_trans ?_ (by with_reducible assumption))))⟩

set_option maxRecDepth 100000 in
set_option maxHeartbeats 4000000 in
theorem hasMark_any {F G : Nat → Prop} {w : World} {v : Value} {ds : List Value} {l : List At} {m : Mk} (hl : RSl RAt 3 F w v l) (hm : RMk G w ds m) :
    Calls Try.prog 48 #[v, .agg ds.toArray] w fun e w' => e = .returned (.bool (hasM l m)) ∧ Ext w w' := by
  obtain ⟨a0, n0, c0, rfl⟩ := hl.slice
  obtain ⟨rfl, hn1, hn2⟩ := hl.len
  unfold maxLen at hn2
  have q1 : l.length ≤ 9223372036854775807 := by omega
  clear hn1 hn2
  have HMX := Lib.hid (fun (W : World) (hx : Ext w W) => gMk.ext hm hx)
  obtain ⟨u, rfl, hm, _⟩ := hm
  obtain ⟨m, d⟩ := m
  simp only at hm HMX ⊢
  obtain ⟨a2, n2, c2, rfl⟩ := hm.slice
  have HL := Lib.hid hl
  clear hl hm
  obtain ⟨pr, hpr⟩ : ∃ pr : At → Bool, pr = fun a => decide (ordM a.1 (m, d) = 0) := ⟨_, rfl⟩
  have hM : hasM l (m, d) = l.any pr := by rw [hpr]; rfl
  rw [hM]
  have HPR := Lib.hid (fun (a : At) => (show (ordM a.1 (m, d) == 0) = pr a by rw [hpr]; rfl))
  clear hM hpr
  go_enter Try.func48, Try.ntmps48
  go_wp2
  go_loopw [5] (fun iv wr => ∃ k : Nat, k ≤ l.length ∧ iv = .int .i64 k ∧ Hid ((l.take k).any pr = false) ∧ Ext (w.alloc (.cells #[.slice a2 n2 c2, .int .i64 d] 75)) wr) (fun iv _ => l.length - (intOf iv).toNat)
  case atStart => exact ⟨0, Nat.zero_le _, rfl, Lib.hid (by simp), ext_refl _⟩
  case round =>
    obtain ⟨k, hk, rfl, HI, hx⟩ := hrel
    have hw : Ext w wr := ext_trans (ext_alloc (ext_refl _) _) hx
    have z1 : wr.cell? ⟨w.heap.size, 0, none⟩ = some (.slice a2 n2 c2) := (hx.cells _ _ (by simp <;> omega)).trans (by go_simp)
    have z2 : wr.cell? ⟨w.heap.size, 1, none⟩ = some (.int .i64 d) := (hx.cells _ _ (by simp <;> omega)).trans (by go_simp)
    have hsz := hx.size
    (try simp at hsz)
    have hbz : w.heap.size < wr.heap.size := by omega
    have HX := Lib.hid hx
    have HW := Lib.hid hw
    clear hx hw
    by_cases hlt : k < l.length
    · obtain ⟨b, o, p, c, s, ap, cp, rfl, hb, ek, ick, hpp, y0, y1, y2⟩ := atm_at (HL.out.ext gAt HW.out) hlt
      have HCM := Lib.hid (fun (W : World) (hx : Ext wr W) => same_any (rmk_of' (hpp.ext gStp hx) ick) (HMX.out W (ext_trans HW.out hx)))
      rw [HPR.out ((p, c), s)] at HCM
      have HA := Lib.hid (anyp_step (p := pr) ek)
      clear hpp ick ek
      cases g : pr ((p, c), s) with
      | true =>
        rw [g] at HCM
        have HC := Lib.hid (anyp_of_take (p := pr) (l := l) (k := k + 1) (by rw [HA.out, HI.out, g]; rfl))
        go_wp2_with fail
        refine wp_name (fun W2 eW2 => ?_)
        have e0 : W2.cell? ⟨w.heap.size, 0, none⟩ = some (.slice a2 n2 c2) := by rw [eW2]; go_simp
        have e1 : W2.cell? ⟨w.heap.size, 1, none⟩ = some (.int .i64 d) := by rw [eW2]; go_simp
        have e2 : W2.cell? ⟨b, o + k * 3, none⟩ = some (.slice ap p.length cp) := by rw [eW2]; go_simp
        have e3 : W2.cell? ⟨b, o + k * 3 + 1, none⟩ = some (.int .i64 c) := by rw [eW2]; go_simp
        have e4 : W2.cell? ⟨b, o + k * 3 + 2, none⟩ = some (.int .u8 s.toNat) := by rw [eW2]; go_simp
        have zW2_0 : b < W2.heap.size := by rw [eW2]; first | assumption | omega | (simp <;> omega)
        have zW2_1 : w.heap.size < W2.heap.size := by rw [eW2]; first | assumption | omega | (simp <;> omega)
        have hw2 : Ext wr W2 := by rw [eW2]; exact (by repeat (first | (with_reducible exact ext_refl _) | (with_reducible assumption) | (with_reducible refine ext_drew ?_) | (with_reducible refine ext_drewN ?_ _) | (with_reducible refine ext_alloc ?_ _) | (with_reducible refine ext_set ?_ (by first | omega | (simp <;> omega)) _) | (with_reducible refine ext_trans ?_ (by with_reducible assumption))))
        clear eW2
        refine wp_region_later fol (by kernel_rfl) (fun hlater => ?_)
        repeat (go_big_quiet_step ((first
            | (go_at_call 98; (with_reducible exact later_of (HCM.out _ (ext_trans hw2 (Later.ext _))))))))
        refine wpQuiet_nil ?_
        rintro w3 ⟨⟨w3x, hx3⟩, rfl⟩
        clear hlater
        go_wp2_with fail
        go_ret
        exact ⟨rb HC.out.symm, ext_trans HW.out (ext_trans hw2 hx3)⟩
      | false =>
        rw [g] at HCM
        have HD := Lib.hid (show (l.take (k + 1)).any pr = false by rw [HA.out, HI.out, g]; rfl)
        go_wp2_with fail
        refine wp_name (fun W2 eW2 => ?_)
        have e0 : W2.cell? ⟨w.heap.size, 0, none⟩ = some (.slice a2 n2 c2) := by rw [eW2]; go_simp
        have e1 : W2.cell? ⟨w.heap.size, 1, none⟩ = some (.int .i64 d) := by rw [eW2]; go_simp
        have e2 : W2.cell? ⟨b, o + k * 3, none⟩ = some (.slice ap p.length cp) := by rw [eW2]; go_simp
        have e3 : W2.cell? ⟨b, o + k * 3 + 1, none⟩ = some (.int .i64 c) := by rw [eW2]; go_simp
        have e4 : W2.cell? ⟨b, o + k * 3 + 2, none⟩ = some (.int .u8 s.toNat) := by rw [eW2]; go_simp
        have zW2_0 : b < W2.heap.size := by rw [eW2]; first | assumption | omega | (simp <;> omega)
        have zW2_1 : w.heap.size < W2.heap.size := by rw [eW2]; first | assumption | omega | (simp <;> omega)
        have hw2 : Ext wr W2 := by rw [eW2]; exact (by repeat (first | (with_reducible exact ext_refl _) | (with_reducible assumption) | (with_reducible refine ext_drew ?_) | (with_reducible refine ext_drewN ?_ _) | (with_reducible refine ext_alloc ?_ _) | (with_reducible refine ext_set ?_ (by first | omega | (simp <;> omega)) _) | (with_reducible refine ext_trans ?_ (by with_reducible assumption))))
        clear eW2
        refine wp_region_later fol (by kernel_rfl) (fun hlater => ?_)
        repeat (go_big_quiet_step ((first
            | (go_at_call 98; (with_reducible exact later_of (HCM.out _ (ext_trans hw2 (Later.ext _))))))))
        refine wpQuiet_nil ?_
        rintro w3 ⟨⟨w3x, hx3⟩, rfl⟩
        clear hlater
        go_wp2_with fail
        go_roundw
        case rel => exact ⟨k + 1, by omega, by go_num, HD, ext_trans HX.out (ext_trans hw2 hx3)⟩
        case measure => simp [intOf]; omega
    · have hkl : k = l.length := by omega
      subst hkl
      have hi := HI.out
      rw [List.take_of_length_le (Nat.le_refl _)] at hi
      go_wp2
      go_ret
      exact ⟨rb hi.symm, HW.out⟩
end Go.Proofs.Ytghfmgndddjofaa
