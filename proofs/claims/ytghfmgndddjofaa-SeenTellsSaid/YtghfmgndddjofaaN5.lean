/- What was seen: both joined; the same numbers; may a note be done. -/
import Derived.Test.YtghfmgndddjofaaN4
set_option linter.unusedVariables false
set_option linter.unusedSimpArgs false
namespace Go.Proofs.Ytghfmgndddjofaa
open Go Go.RowKit Go.BigFrame Cp

/-- numbers, all in new memory -/
def IsInts (l : List Int) (w : World) (e : Ending) (w' : World) : Prop := ∃ v, e = .returned v ∧ OSl RInt 1 3 w.heap.size (fun _ => True) w' v l ∧ Ext w w'
def IsIntsE (l : List Int) (er : Int) (w : World) (e : Ending) (w' : World) : Prop := ∃ v, e = .returned (.tuple #[v, .int .i64 er]) ∧ RSl RInt 1 (fun k => w.heap.size ≤ k) w' v l ∧ Ext w w'
def IsIntsR (l : List Int) (w : World) (e : Ending) (w' : World) : Prop := ∃ v, e = .returned v ∧ RSl RInt 1 (fun k => w.heap.size ≤ k) w' v l ∧ Ext w w'
theorem osl_ints {base : Nat} {F : Nat → Prop} {w : World} {v : Value} {l : List Int} (h : OSl RInt 1 3 base F w v l) : RSl RInt 1 (fun k => base ≤ k) w v l :=
  osl_rsl gInt (osl_any leaf_int (G := fun k => base ≤ k) h) (fun k hk _ => hk) (fun k hk => hk)
theorem joinI_i64 {l m : List Int} {i : Nat} (h : ∀ x ∈ l, I64 x) (k : ∀ x ∈ m, I64 x) : I64 (maxI (atI l i) (atI m i)) := by
  have h0 : I64 (0 : Int) := by unfold I64; omega
  have h1 : I64 (atI l i) := by
    unfold atI
    cases e : l[i]? with
    | none => exact h0
    | some x => exact h x (List.mem_of_getElem? e)
  have h2 : I64 (atI m i) := by
    unfold atI
    cases e : m[i]? with
    | none => exact h0
    | some x => exact k x (List.mem_of_getElem? e)
  unfold maxI
  split
  · exact h2
  · exact h1
theorem ints_i64 {F : Nat → Prop} {w : World} {v : Value} {l : List Int} (h : RSl RInt 1 F w v l) : ∀ x ∈ l, I64 x := by
  intro x hx
  obtain ⟨a, n, c, rfl⟩ := h.slice
  obtain ⟨rfl, _, _⟩ := h.len
  obtain ⟨i, hi, e⟩ := List.mem_iff_getElem.1 hx
  obtain ⟨_, _, y, _, _, e1, i1, _⟩ := int_at h hi
  rw [List.getElem?_eq_getElem hi, e] at e1
  have : x = y := by simpa using e1
  subst this; exact i1

set_option maxRecDepth 100000 in
set_option maxHeartbeats 4000000 in
theorem cloneInts_any {F : Nat → Prop} {w : World} {v : Value} {l : List Int} (h : RSl RInt 1 F w v l) (hsz : l.length ≤ 8000000000000) :
    Calls Try.prog 51 #[v] w (IsInts l w) := by
  obtain ⟨a1, n1, c1, rfl⟩ := h.slice
  obtain ⟨rfl, k1, k1'⟩ := h.len
  have hnil := fun (W : World) (a : Option Addr) (n c : Nat) => Lib.run_eql_slice_nil (P := Try.prog) W 22 3 a n c 0 0 Try.underlying22
  obtain ⟨i0, hi, hz0, hz1, hz2⟩ := info_parts info_int
  cases a1 with
  | none =>
    have e0 : l = [] := by
      cases l with
      | nil => rfl
      | cons a r => obtain ⟨b, o, x, cs, e, _⟩ := h.at_ (i := 0) (by simp); cases e
    subst e0
    go_enter Try.func51, Try.ntmps51
    go_wp2_with fail
    all_goals go_ret
    all_goals exact ⟨_, rfl, osl_nil, ext_refl _⟩
  | some ad =>
    have H := Lib.hid (h.more gInt (G := fun k => k < w.heap.size) (fun _ _ hk => hk))
    clear h k1 k1'
    go_enter Try.func51, Try.ntmps51
    go_wp2_with (at_builtin; refine wpList_appAll gInt rfl (.tmp 5) (.tmp 6) 22 rfl w.heap.size 3 i0 _ 1 8 Try.underlying22 hi hz0 hz1 hz2 rfl (by omega) (F := fun k => k < w.heap.size) (G := fun k => k < w.heap.size) _ [] rfl osl_new _ l rfl (H.out.ext gInt (ext_alloc (ext_refl _) _)) one_int (fun k hk _ => ⟨hk, ne_own hk⟩) (by simp only [maxLen, List.length_nil]; omega) (by simp only [List.length_nil]; omega) (by simp) ?_; intro v1 w1 hown1 hg1 hat1)
    go_ret
    exact ⟨_, rfl, osl_any leaf_int hown1, ext_grow (ext_alloc (ext_refl _) _) hg1 (fun k hk => Nat.le_of_eq (own_eq hk))⟩

set_option maxRecDepth 100000 in
set_option maxHeartbeats 4000000 in
theorem join_any {F G : Nat → Prop} {w : World} {v u : Value} {l m : List Int} (h : RSl RInt 1 F w v l) (k : RSl RInt 1 G w u m) :
    Calls Try.prog 12 #[v, u] w (IsIntsE (if bothI l m = 0 then joinI l m else []) (bothI l m) w) := by
  have HB := Lib.hid (fun (W : World) (hx : Ext w W) => bothI_any (h.ext gInt hx) (k.ext gInt hx))
  have HC := Lib.hid (fun (h5 : l.length = 5) (W : World) (hx : Ext w W) => cloneInts_any (h.ext gInt hx) (by omega))
  have HM := Lib.hid (fun (W : World) (hx : Ext w W) => k.ext gInt hx)
  have HI := Lib.hid (fun (i : Nat) => joinI_i64 (i := i) (ints_i64 h) (ints_i64 k))
  obtain ⟨a, n, c, rfl⟩ := h.slice
  obtain ⟨a2, n2, c2, rfl⟩ := k.slice
  have hn2 := k.len.1
  clear h k
  by_cases h0 : bothI l m = 0
  · rw [if_pos h0, h0]
    have hl5 := (checkI_five (bothI_ok h0).1).1
    have hm5 := (checkI_five (bothI_ok h0).2).1
    obtain rfl : n2 = 5 := hn2.trans hm5
    have HK := Lib.hid (HC.out hl5)
    have HR := Lib.hid (row_ofI hl5)
    obtain ⟨b2, o2, _, rfl, hb2, _⟩ := int_at (HM.out w (ext_refl _)) (i := 0) (by omega)
    rw [h0] at HB
    clear h0 HC hl5 hm5 hn2
    go_enter Try.func12, Try.ntmps12
    go_wp2_with (first
      | (go_at_call 50; go_must ((with_reducible refine (HB.out _ (by repeat (first | (with_reducible exact ext_refl _) | (with_reducible assumption) | (with_reducible refine ext_drew ?_) | (with_reducible refine ext_drewN ?_ _) | (with_reducible refine ext_alloc ?_ _) | (with_reducible refine ext_set ?_ (by first | omega | (simp <;> omega)) _) | (with_reducible refine ext_trans ?_ (by with_reducible assumption))))).mono ?_); rintro e w1 ⟨rfl, hx1⟩))
      | (go_at_call 51; go_must ((with_reducible refine (HK.out _ (by repeat (first | (with_reducible exact ext_refl _) | (with_reducible assumption) | (with_reducible refine ext_drew ?_) | (with_reducible refine ext_drewN ?_ _) | (with_reducible refine ext_alloc ?_ _) | (with_reducible refine ext_set ?_ (by first | omega | (simp <;> omega)) _) | (with_reducible refine ext_trans ?_ (by with_reducible assumption))))).mono ?_); rintro e w2 ⟨v2, rfl, hv2, hx2⟩; rw [HR.out] at hv2; obtain ⟨a3, n3, c3, rfl⟩ := osl_slice hv2; obtain ⟨g3, _, _, hn3, rfl, hg3, hs3, _⟩ := osl_at hv2 (i := 0) (by rw [rowL_len]; omega); rw [rowL_len] at hn3; subst hn3; have HO := Lib.hid (osl_base (base' := w.heap.size) (Ext.size hx1) hv2); have hg3' : w.heap.size ≤ g3 := Nat.le_trans (Ext.size hx1) hg3; clear hv2)))
    have HX0 := Lib.hid (ext_trans hx1 hx2)
    clear hx1 hx2
    go_loopw [20] (fun i wr => ∃ q : Nat, q ≤ 5 ∧ i = .int .i64 q ∧ Hid (OSl RInt 1 3 w.heap.size (fun _ => True) wr (.slice (some ⟨g3, 0, none⟩) 5 c3) (rowL (fun j => if j < q then maxI (atI l j) (atI m j) else atI l j) 5)) ∧ Ext w wr) (fun i _ => 5 - (intOf i).toNat)
    case atStart => exact ⟨0, by omega, rfl, HO, HX0.out⟩
    case round =>
      obtain ⟨q, hq, rfl, HI2, hx⟩ := hrel
      have HX := Lib.hid hx
      have hzr := hx.size
      clear hx
      by_cases hlt : q < 5
      · obtain ⟨b, o, y, ea, hb, e2, _, ca2⟩ := int_at (HM.out wr HX.out) hlt
        obtain ⟨rfl, rfl⟩ : b2 = b ∧ o2 = o := by injection ea with ea; injection ea with ea1 ea2; exact ⟨ea1, ea2⟩
        obtain ⟨_, hgw, r0, _, rf⟩ := row_at HI2.out hlt
        rw [if_neg (Nat.lt_irrefl q)] at r0
        have hyy := atI_of e2
        subst hyy
        have hn1 : ¬ b2 = g3 := by omega
        have hn2 : ¬ g3 = b2 := by omega
        have HP := Lib.hid (row_put (f' := fun j => if j < q + 1 then maxI (atI l j) (atI m j) else atI l j) HI2.out hlt (HI.out q) (fun j hj => by
          by_cases h1 : j = q
          · subst h1; rw [if_pos (by omega), if_pos rfl]
          · rw [if_neg h1]
            by_cases h2 : j < q
            · rw [if_pos (by omega), if_pos h2]
            · rw [if_neg (by omega), if_neg h2]))
        clear ea e2
        go_wp2_with fail
        go_roundw
        case rel => exact ⟨q + 1, by omega, by go_num, HP, ext_set HX.out (by simp <;> omega) _⟩
        case measure => simp [intOf]; omega
      · have hq5 : q = 5 := by omega
        have hi := HI2.out
        rw [hq5] at hi
        have HF := Lib.hid (osl_ints hi)
        have e1 : rowL (fun j => if j < 5 then maxI (atI l j) (atI m j) else atI l j) 5 = joinI l m := row_same (fun j hj => if_pos hj)
        rw [e1] at HF
        clear hq5 hi e1 HI2
        go_wp2
        refine bodyPost_ret (v := .tuple #[.slice (some ⟨g3, 0, none⟩) 5 c3, .int .i64 0]) (by simp [results, Try.results12, go_sem]) rfl ⟨_, rfl, HF.out, HX.out⟩
  · rw [if_neg h0]
    have t1 : (bothI l m != 0) = true := by simpa using h0
    generalize bothI l m = r at *
    clear h0 HC hn2
    go_enter Try.func12, Try.ntmps12
    go_wp2_with (first
      | (go_at_call 50; go_must ((with_reducible refine (HB.out _ (by repeat (first | (with_reducible exact ext_refl _) | (with_reducible assumption) | (with_reducible refine ext_drew ?_) | (with_reducible refine ext_drewN ?_ _) | (with_reducible refine ext_alloc ?_ _) | (with_reducible refine ext_set ?_ (by first | omega | (simp <;> omega)) _) | (with_reducible refine ext_trans ?_ (by with_reducible assumption))))).mono ?_); rintro e w1 ⟨rfl, hx1⟩)))
    refine bodyPost_ret (v := .tuple #[.slice none 0 0, .int .i64 r]) (by simp [results, Try.results12, go_sem]) rfl ⟨_, rfl, RSl.nil_ (Nat.zero_le _), (by repeat (first | (with_reducible exact ext_refl _) | (with_reducible assumption) | (with_reducible refine ext_drew ?_) | (with_reducible refine ext_drewN ?_ _) | (with_reducible refine ext_alloc ?_ _) | (with_reducible refine ext_set ?_ (by first | omega | (simp <;> omega)) _) | (with_reducible refine ext_trans ?_ (by with_reducible assumption))))⟩

set_option maxRecDepth 100000 in
set_option maxHeartbeats 4000000 in
theorem joinOf_any {F G : Nat → Prop} {w : World} {v u : Value} {l m : List Int} (h : RSl RInt 1 F w v l) (k : RSl RInt 1 G w u m) (h5 : l.length = 5) (k5 : m.length = 5) :
    Calls Try.prog 17 #[v, u] w (IsIntsR (joinI l m) w) := by
  have HL := Lib.hid (fun (W : World) (hx : Ext w W) => h.ext gInt hx)
  have HM := Lib.hid (fun (W : World) (hx : Ext w W) => k.ext gInt hx)
  have HI := Lib.hid (fun (i : Nat) => joinI_i64 (i := i) (ints_i64 h) (ints_i64 k))
  obtain ⟨a, n, c, rfl⟩ := h.slice
  obtain ⟨a2, n2, c2, rfl⟩ := k.slice
  obtain rfl : n = 5 := h.len.1.trans h5
  obtain rfl : n2 = 5 := k.len.1.trans k5
  obtain ⟨i0, hi0, hz0, hz1, hz2⟩ := info_parts info_int
  have HJ := Lib.hid hi0
  have HZ0 := Lib.hid hz0
  have HZ1 := Lib.hid hz1
  have HZ2 := Lib.hid hz2
  clear h k hi0 hz0 hz1 hz2
  go_enter Try.func17, Try.ntmps17
  go_wp2
  go_loopw [5, 6] (fun ov iv wr => ∃ q : Nat, q ≤ 5 ∧ iv = .int .i64 q ∧ Hid (OSl RInt 1 3 w.heap.size (fun _ => True) wr ov (rowL (fun j => maxI (atI l j) (atI m j)) q)) ∧ Ext w wr) (fun _ iv _ => 5 - (intOf iv).toNat)
  case atStart => exact ⟨0, by omega, rfl, Lib.hid osl_nil, ext_refl _⟩
  case round =>
    obtain ⟨q, hq, rfl, HO, hx⟩ := hrel
    have HX := Lib.hid hx
    clear hx
    obtain ⟨a5, n5, c5, rfl⟩ := osl_slice HO.out
    obtain rfl : n5 = q := by have := (osl_len HO.out).1; rwa [rowL_len] at this
    by_cases hlt : n5 < 5
    · obtain ⟨b, o, x, rfl, hb, e1, ix, ca⟩ := int_at (HL.out wr HX.out) hlt
      obtain ⟨b2, o2, y, rfl, hb2, e2, iy, ca2⟩ := int_at (HM.out wr HX.out) hlt
      have hxx := atI_of e1
      have hyy := atI_of e2
      have hro : rowL (fun j => maxI (atI l j) (atI m j)) (n5 + 1) = rowL (fun j => maxI (atI l j) (atI m j)) n5 ++ [maxI x y] := by unfold rowL; rw [List.range_succ, List.map_append, hxx, hyy]; rfl
      have HRO := Lib.hid hro
      clear e1 e2 hxx hyy hro
      by_cases g : x < y
      · have t1 : decide (x < y) = true := decide_eq_true g
        have HMX := Lib.hid (show maxI x y = y from if_pos g)
        clear g
        go_wp2_with (at_builtin; go_must (refine wpList_app1 gInt rfl (.tmp 26) (.tmp 28) 22 rfl w.heap.size 3 i0 _ 1 8 Try.underlying22 HJ.out HZ0.out HZ1.out HZ2.out rfl (by omega) (F := fun _ => True) (G := fun _ => False) (.slice a5 n5 c5) (rowL (fun j => maxI (atI l j) (atI m j)) n5) rfl (osl_ext gInt HO.out (ext_alloc (ext_refl _) _)) wr.heap.size 0 1 [.int .i64 y] y rfl rfl (rangeAt1 (by go_simp)) (one_int (fun _ => True) wr _ y ⟨rfl, iy⟩) ⟨rfl, iy⟩ (fun j hj _ => hj.elim) (by simp only [rowL_len, maxLen]; omega) (by simp only [rowL_len]; omega) (by have := Ext.size HX.out; simp; omega) ?_; intro v9 w9 hown9 hg9 hat9))
        have HN := Lib.hid (show OSl RInt 1 3 w.heap.size (fun _ => True) w9 v9 (rowL (fun j => maxI (atI l j) (atI m j)) (n5 + 1)) by rw [HRO.out, HMX.out]; exact hown9)
        have hx9 : Ext w w9 := ext_grown (ext_alloc HX.out _) hg9 (fun k hk => (osl_lt HO.out k hk).1)
        clear hown9 hat9 hg9
        go_roundw
        case rel => exact ⟨n5 + 1, by omega, by go_num, HN, hx9⟩
        case measure => simp [intOf]; omega
      · have t1 : decide (x < y) = false := decide_eq_false g
        have HMX := Lib.hid (show maxI x y = x from if_neg g)
        clear g
        go_wp2_with (at_builtin; go_must (refine wpList_app1 gInt rfl (.tmp 26) (.tmp 28) 22 rfl w.heap.size 3 i0 _ 1 8 Try.underlying22 HJ.out HZ0.out HZ1.out HZ2.out rfl (by omega) (F := fun _ => True) (G := fun _ => False) (.slice a5 n5 c5) (rowL (fun j => maxI (atI l j) (atI m j)) n5) rfl (osl_ext gInt HO.out (ext_alloc (ext_refl _) _)) wr.heap.size 0 1 [.int .i64 x] x rfl rfl (rangeAt1 (by go_simp)) (one_int (fun _ => True) wr _ x ⟨rfl, ix⟩) ⟨rfl, ix⟩ (fun j hj _ => hj.elim) (by simp only [rowL_len, maxLen]; omega) (by simp only [rowL_len]; omega) (by have := Ext.size HX.out; simp; omega) ?_; intro v9 w9 hown9 hg9 hat9))
        have HN := Lib.hid (show OSl RInt 1 3 w.heap.size (fun _ => True) w9 v9 (rowL (fun j => maxI (atI l j) (atI m j)) (n5 + 1)) by rw [HRO.out, HMX.out]; exact hown9)
        have hx9 : Ext w w9 := ext_grown (ext_alloc HX.out _) hg9 (fun k hk => (osl_lt HO.out k hk).1)
        clear hown9 hat9 hg9
        go_roundw
        case rel => exact ⟨n5 + 1, by omega, by go_num, HN, hx9⟩
        case measure => simp [intOf]; omega
    · have hq5 : n5 = 5 := by omega
      subst hq5
      have HF := Lib.hid (osl_ints HO.out)
      go_wp2
      go_ret
      exact ⟨_, rfl, HF.out, HX.out⟩

set_option maxRecDepth 100000 in
set_option maxHeartbeats 4000000 in
theorem sameInts_any {F G : Nat → Prop} {w : World} {v u : Value} {l m : List Int} (h : RSl RInt 1 F w v l) (k : RSl RInt 1 G w u m) :
    Calls Try.prog 20 #[v, u] w fun e w' => e = .returned (.bool (decide (l = m))) ∧ Ext w w' := by
  have HL := Lib.hid (fun (W : World) (hx : Ext w W) => h.ext gInt hx)
  have HM := Lib.hid (fun (W : World) (hx : Ext w W) => k.ext gInt hx)
  obtain ⟨a, n, c, rfl⟩ := h.slice
  obtain ⟨a2, n2, c2, rfl⟩ := k.slice
  obtain ⟨rfl, hn1, hn2⟩ := h.len
  obtain ⟨rfl, hn3, hn4⟩ := k.len
  unfold maxLen at hn2 hn4
  have q1 : l.length ≤ 9223372036854775807 := by omega
  have q2 : m.length ≤ 9223372036854775807 := by omega
  clear h k hn1 hn2 hn3 hn4
  by_cases h0 : l.length = m.length
  · have t0 : ((l.length : Int) != (m.length : Int)) = false := by rw [h0]; simp
    have H0 := Lib.hid h0
    clear h0
    go_enter Try.func20, Try.ntmps20
    go_wp2
    go_loopw [5] (fun i wr => ∃ q : Nat, q ≤ l.length ∧ i = .int .i64 q ∧ Hid (l.take q = m.take q) ∧ Ext w wr) (fun i _ => l.length - (intOf i).toNat)
    case atStart => exact ⟨0, Nat.zero_le _, rfl, Lib.hid (by simp), ext_refl _⟩
    case round =>
      obtain ⟨q, hq, rfl, HI, hx⟩ := hrel
      have HX := Lib.hid hx
      clear hx
      by_cases hlt : q < l.length
      · have hlm : q < m.length := by have := H0.out; omega
        obtain ⟨b, o, x, rfl, hb, e1, _, ca⟩ := int_at (HL.out wr HX.out) hlt
        obtain ⟨b2, o2, y, rfl, hb2, e2, _, ca2⟩ := int_at (HM.out wr HX.out) hlm
        by_cases g : x = y
        · have t1 : (x != y) = false := by rw [g]; simp
          have HN := Lib.hid (show l.take (q + 1) = m.take (q + 1) by
            rw [List.take_succ_eq_append_getElem hlt, List.take_succ_eq_append_getElem hlm, HI.out]
            rw [List.getElem?_eq_getElem hlt] at e1
            rw [List.getElem?_eq_getElem hlm] at e2
            rw [Option.some.inj e1, Option.some.inj e2, g])
          clear e1 e2 g
          go_wp2_with fail
          refine wp_name (fun W2 eW2 => ?_)
          have e0 : W2.cell? ⟨b, o + q, none⟩ = some (.int .i64 x) := by rw [eW2]; go_simp
          have e1 : W2.cell? ⟨b2, o2 + q, none⟩ = some (.int .i64 y) := by rw [eW2]; go_simp
          have zW2_0 : b < W2.heap.size := by rw [eW2]; first | assumption | omega | (simp <;> omega)
          have zW2_1 : b2 < W2.heap.size := by rw [eW2]; first | assumption | omega | (simp <;> omega)
          have hw2 : Ext wr W2 := by rw [eW2]; exact (by repeat (first | (with_reducible exact ext_refl _) | (with_reducible assumption) | (with_reducible refine ext_drew ?_) | (with_reducible refine ext_drewN ?_ _) | (with_reducible refine ext_alloc ?_ _) | (with_reducible refine ext_set ?_ (by first | omega | (simp <;> omega)) _) | (with_reducible refine ext_trans ?_ (by with_reducible assumption))))
          clear eW2
          refine wp_region_later fol (by kernel_rfl) (fun hlater => ?_)
          repeat (go_big_quiet_step ((fail)))
          refine wpQuiet_nil ?_
          rintro w3 ⟨⟨w3x, hx3⟩, rfl⟩
          clear hlater
          go_wp2_with fail
          go_roundw
          case rel => exact ⟨q + 1, by omega, by go_num, HN, ext_trans HX.out (ext_trans hw2 hx3)⟩
          case measure => simp [intOf]; omega
        · have t1 : (x != y) = true := by simpa using g
          have HC := Lib.hid (show decide (l = m) = false from decide_eq_false (fun e => by
            subst e
            rw [e1] at e2
            exact g (Option.some.inj e2)))
          clear e1 e2 g
          go_wp2_with fail
          refine wp_name (fun W2 eW2 => ?_)
          have e0 : W2.cell? ⟨b, o + q, none⟩ = some (.int .i64 x) := by rw [eW2]; go_simp
          have e1 : W2.cell? ⟨b2, o2 + q, none⟩ = some (.int .i64 y) := by rw [eW2]; go_simp
          have zW2_0 : b < W2.heap.size := by rw [eW2]; first | assumption | omega | (simp <;> omega)
          have zW2_1 : b2 < W2.heap.size := by rw [eW2]; first | assumption | omega | (simp <;> omega)
          have hw2 : Ext wr W2 := by rw [eW2]; exact (by repeat (first | (with_reducible exact ext_refl _) | (with_reducible assumption) | (with_reducible refine ext_drew ?_) | (with_reducible refine ext_drewN ?_ _) | (with_reducible refine ext_alloc ?_ _) | (with_reducible refine ext_set ?_ (by first | omega | (simp <;> omega)) _) | (with_reducible refine ext_trans ?_ (by with_reducible assumption))))
          clear eW2
          refine wp_region_later fol (by kernel_rfl) (fun hlater => ?_)
          repeat (go_big_quiet_step ((fail)))
          refine wpQuiet_nil ?_
          rintro w3 ⟨⟨w3x, hx3⟩, rfl⟩
          clear hlater
          go_wp2_with fail
          go_ret
          exact ⟨rb HC.out.symm, ext_trans HX.out (ext_trans hw2 hx3)⟩
      · have HC := Lib.hid (show decide (l = m) = true from decide_eq_true (by
          have h1 := HI.out
          rw [List.take_of_length_le (by omega), List.take_of_length_le (by have := H0.out; omega)] at h1
          exact h1))
        go_wp2
        go_ret
        exact ⟨rb HC.out.symm, HX.out⟩
  · have t0 : ((l.length : Int) != (m.length : Int)) = true := by rw [bne_iff_ne]; omega
    have HC := Lib.hid (show decide (l = m) = false from decide_eq_false (fun e => h0 (by rw [e])))
    clear h0
    go_enter Try.func20, Try.ntmps20
    go_wp2
    go_ret
    exact ⟨rb HC.out.symm, ext_refl _⟩

def readyB (l : List Int) (n : No) : Bool := leastI l n.needs && (atI l n.site.toNat == n.number - 1)
theorem checkN_parts {n : No} (h : checkN n = 0) : inB n.site 0 4 = true ∧ inB n.number 1 500 = true ∧ n.needs.length = 5 := by
  cases g1 : inB n.site 0 4 with
  | false => rw [checkN_site g1] at h; omega
  | true =>
    cases g2 : inB n.number 1 500 with
    | false => rw [checkN_number g2] at h; omega
    | true =>
      refine ⟨rfl, rfl, ?_⟩
      by_cases g3 : n.needs.length = 5
      · exact g3
      · rw [checkN_len g1 g2 g3] at h; omega
theorem readyB_no {l : List Int} {n : No} (h : leastI l n.needs = false) : readyB l n = false := by unfold readyB; rw [h]; rfl
theorem readyB_yes {l : List Int} {n : No} (h : leastI l n.needs = true) : readyB l n = (atI l n.site.toNat == n.number - 1) := by unfold readyB; rw [h]; rfl
set_option maxRecDepth 100000 in
set_option maxHeartbeats 4000000 in
theorem mayP_any {F G : Nat → Prop} {w : World} {v : Value} {cs : List Value} {l : List Int} {n : No} (h : RSl RInt 1 F w v l) (k : RNo G w cs n) (h5 : checkI l = 0) (k5 : checkN n = 0) :
    Calls Try.prog 53 #[v, .agg cs.toArray] w fun e w' => e = .returned (.bool (readyB l n)) ∧ Ext w w' := by
  have hl5 := (checkI_five h5).1
  obtain ⟨g1, g2, g3⟩ := checkN_parts k5
  obtain ⟨a, nl, c, rfl⟩ := h.slice
  obtain ⟨v1, u1, rfl, hs, hk, hl, hq⟩ := k
  obtain ⟨st, nb, ne, dd⟩ := n
  simp only at hs hk hl hq g1 g2 g3
  have HLE := Lib.hid (fun (W : World) (hx : Ext w W) => leastI_any (h.ext gInt hx) (hl.ext gInt hx) hl5 g3)
  obtain ⟨a2, n2, c2, rfl⟩ := hl.slice
  obtain ⟨a3, n3, c3, rfl⟩ := hq.slice
  obtain rfl : nl = 5 := h.len.1.trans hl5
  obtain ⟨j, rfl, hj⟩ := site_nat g1
  obtain ⟨b1, b2⟩ := num_rng g2
  obtain ⟨b, o, x, rfl, hb, e1, _, ca⟩ := int_at h hj
  have hn1 : ¬ b = w.heap.size := by omega
  have hn2 : ¬ w.heap.size = b := by omega
  have hat := atI_of e1
  clear h hs hk hl hq h5 k5 hl5 g1 g2 g3 e1
  cases g : leastI l ne with
  | false =>
    rw [readyB_no g]
    rw [g] at HLE
    clear hat
    go_enter Try.func53, Try.ntmps53
    go_wp2_with fail
    refine wp_name (fun W2 eW2 => ?_)
    have e0 : W2.cell? ⟨w.heap.size, 0, none⟩ = some (.int .i64 (j : Nat)) := by rw [eW2]; go_simp
    have e1 : W2.cell? ⟨w.heap.size, 1, none⟩ = some (.int .i64 nb) := by rw [eW2]; go_simp
    have e2 : W2.cell? ⟨w.heap.size, 2, none⟩ = some (.slice a2 n2 c2) := by rw [eW2]; go_simp
    have e3 : W2.cell? ⟨w.heap.size, 3, none⟩ = some (.slice a3 n3 c3) := by rw [eW2]; go_simp
    have e4 : W2.cell? ⟨b, o + j, none⟩ = some (.int .i64 x) := by rw [eW2]; go_simp
    have zW2_0 : w.heap.size < W2.heap.size := by rw [eW2]; first | assumption | omega | (simp <;> omega)
    have zW2_1 : b < W2.heap.size := by rw [eW2]; first | assumption | omega | (simp <;> omega)
    have hw2 : Ext w W2 := by rw [eW2]; exact (by repeat (first | (with_reducible exact ext_refl _) | (with_reducible assumption) | (with_reducible refine ext_drew ?_) | (with_reducible refine ext_drewN ?_ _) | (with_reducible refine ext_alloc ?_ _) | (with_reducible refine ext_set ?_ (by first | omega | (simp <;> omega)) _) | (with_reducible refine ext_trans ?_ (by with_reducible assumption))))
    clear eW2
    refine wp_region_later fol (by kernel_rfl) (fun hlater => ?_)
    repeat (go_big_quiet_step ((first
        | (go_at_call 52; (with_reducible exact later_of (HLE.out _ (ext_trans hw2 (Later.ext _))))))))
    refine wpQuiet_nil ?_
    rintro w3 ⟨⟨w3x, hx3⟩, rfl⟩
    clear hlater
    go_wp2_with fail
    go_ret
    exact ⟨rfl, ext_trans hw2 hx3⟩
  | true =>
    have HA := Lib.hid (show readyB l ⟨(j : Nat), nb, ne, dd⟩ = (x == nb - 1) by rw [readyB_yes g, hat]; rfl)
    rw [g] at HLE
    clear hat g
    go_enter Try.func53, Try.ntmps53
    go_wp2_with fail
    refine wp_name (fun W2 eW2 => ?_)
    have e0 : W2.cell? ⟨w.heap.size, 0, none⟩ = some (.int .i64 (j : Nat)) := by rw [eW2]; go_simp
    have e1 : W2.cell? ⟨w.heap.size, 1, none⟩ = some (.int .i64 nb) := by rw [eW2]; go_simp
    have e2 : W2.cell? ⟨w.heap.size, 2, none⟩ = some (.slice a2 n2 c2) := by rw [eW2]; go_simp
    have e3 : W2.cell? ⟨w.heap.size, 3, none⟩ = some (.slice a3 n3 c3) := by rw [eW2]; go_simp
    have e4 : W2.cell? ⟨b, o + j, none⟩ = some (.int .i64 x) := by rw [eW2]; go_simp
    have zW2_0 : w.heap.size < W2.heap.size := by rw [eW2]; first | assumption | omega | (simp <;> omega)
    have zW2_1 : b < W2.heap.size := by rw [eW2]; first | assumption | omega | (simp <;> omega)
    have hw2 : Ext w W2 := by rw [eW2]; exact (by repeat (first | (with_reducible exact ext_refl _) | (with_reducible assumption) | (with_reducible refine ext_drew ?_) | (with_reducible refine ext_drewN ?_ _) | (with_reducible refine ext_alloc ?_ _) | (with_reducible refine ext_set ?_ (by first | omega | (simp <;> omega)) _) | (with_reducible refine ext_trans ?_ (by with_reducible assumption))))
    clear eW2
    refine wp_region_later fol (by kernel_rfl) (fun hlater => ?_)
    repeat (go_big_quiet_step ((first
        | (go_at_call 52; (with_reducible exact later_of (HLE.out _ (ext_trans hw2 (Later.ext _))))))))
    refine wpQuiet_nil ?_
    rintro w3 ⟨⟨w3x, hx3⟩, rfl⟩
    clear hlater
    go_wp2_with fail
    go_ret
    exact ⟨rb HA.out.symm, ext_trans hw2 hx3⟩

set_option maxRecDepth 100000 in
set_option maxHeartbeats 4000000 in
theorem isReady_any {F G : Nat → Prop} {w : World} {v : Value} {cs : List Value} {l : List Int} {n : No} (h : RSl RInt 1 F w v l) (k : RNo G w cs n) (h5 : checkI l = 0) (k5 : checkN n = 0) :
    Calls Try.prog 22 #[v, .agg cs.toArray] w fun e w' => e = .returned (.bool (readyB l n)) ∧ Ext w w' := by
  have hl5 := (checkI_five h5).1
  obtain ⟨g1, g2, g3⟩ := checkN_parts k5
  obtain ⟨a, nl, c, rfl⟩ := h.slice
  obtain ⟨v1, u1, rfl, hs, hk, hl, hq⟩ := k
  obtain ⟨st, nb, ne, dd⟩ := n
  simp only at hs hk hl hq g1 g2 g3
  have HLE := Lib.hid (fun (W : World) (hx : Ext w W) => coversOf_any (h.ext gInt hx) (hl.ext gInt hx) hl5 g3)
  obtain ⟨a2, n2, c2, rfl⟩ := hl.slice
  obtain ⟨a3, n3, c3, rfl⟩ := hq.slice
  obtain rfl : nl = 5 := h.len.1.trans hl5
  obtain ⟨j, rfl, hj⟩ := site_nat g1
  obtain ⟨b1, b2⟩ := num_rng g2
  obtain ⟨b, o, x, rfl, hb, e1, _, ca⟩ := int_at h hj
  have hn1 : ¬ b = w.heap.size := by omega
  have hn2 : ¬ w.heap.size = b := by omega
  have hat := atI_of e1
  clear h hs hk hl hq h5 k5 hl5 g1 g2 g3 e1
  cases g : leastI l ne with
  | false =>
    rw [readyB_no g]
    rw [g] at HLE
    clear hat
    go_enter Try.func22, Try.ntmps22
    go_wp2_with fail
    refine wp_name (fun W2 eW2 => ?_)
    have e0 : W2.cell? ⟨w.heap.size, 0, none⟩ = some (.int .i64 (j : Nat)) := by rw [eW2]; go_simp
    have e1 : W2.cell? ⟨w.heap.size, 1, none⟩ = some (.int .i64 nb) := by rw [eW2]; go_simp
    have e2 : W2.cell? ⟨w.heap.size, 2, none⟩ = some (.slice a2 n2 c2) := by rw [eW2]; go_simp
    have e3 : W2.cell? ⟨w.heap.size, 3, none⟩ = some (.slice a3 n3 c3) := by rw [eW2]; go_simp
    have e4 : W2.cell? ⟨b, o + j, none⟩ = some (.int .i64 x) := by rw [eW2]; go_simp
    have zW2_0 : w.heap.size < W2.heap.size := by rw [eW2]; first | assumption | omega | (simp <;> omega)
    have zW2_1 : b < W2.heap.size := by rw [eW2]; first | assumption | omega | (simp <;> omega)
    have hw2 : Ext w W2 := by rw [eW2]; exact (by repeat (first | (with_reducible exact ext_refl _) | (with_reducible assumption) | (with_reducible refine ext_drew ?_) | (with_reducible refine ext_drewN ?_ _) | (with_reducible refine ext_alloc ?_ _) | (with_reducible refine ext_set ?_ (by first | omega | (simp <;> omega)) _) | (with_reducible refine ext_trans ?_ (by with_reducible assumption))))
    clear eW2
    refine wp_region_later fol (by kernel_rfl) (fun hlater => ?_)
    repeat (go_big_quiet_step ((first
        | (go_at_call 21; (with_reducible exact later_of (HLE.out _ (ext_trans hw2 (Later.ext _))))))))
    refine wpQuiet_nil ?_
    rintro w3 ⟨⟨w3x, hx3⟩, rfl⟩
    clear hlater
    go_wp2_with fail
    go_ret
    exact ⟨rfl, ext_trans hw2 hx3⟩
  | true =>
    have HA := Lib.hid (show readyB l ⟨(j : Nat), nb, ne, dd⟩ = (x == nb - 1) by rw [readyB_yes g, hat]; rfl)
    rw [g] at HLE
    clear hat g
    go_enter Try.func22, Try.ntmps22
    go_wp2_with fail
    refine wp_name (fun W2 eW2 => ?_)
    have e0 : W2.cell? ⟨w.heap.size, 0, none⟩ = some (.int .i64 (j : Nat)) := by rw [eW2]; go_simp
    have e1 : W2.cell? ⟨w.heap.size, 1, none⟩ = some (.int .i64 nb) := by rw [eW2]; go_simp
    have e2 : W2.cell? ⟨w.heap.size, 2, none⟩ = some (.slice a2 n2 c2) := by rw [eW2]; go_simp
    have e3 : W2.cell? ⟨w.heap.size, 3, none⟩ = some (.slice a3 n3 c3) := by rw [eW2]; go_simp
    have e4 : W2.cell? ⟨b, o + j, none⟩ = some (.int .i64 x) := by rw [eW2]; go_simp
    have zW2_0 : w.heap.size < W2.heap.size := by rw [eW2]; first | assumption | omega | (simp <;> omega)
    have zW2_1 : b < W2.heap.size := by rw [eW2]; first | assumption | omega | (simp <;> omega)
    have hw2 : Ext w W2 := by rw [eW2]; exact (by repeat (first | (with_reducible exact ext_refl _) | (with_reducible assumption) | (with_reducible refine ext_drew ?_) | (with_reducible refine ext_drewN ?_ _) | (with_reducible refine ext_alloc ?_ _) | (with_reducible refine ext_set ?_ (by first | omega | (simp <;> omega)) _) | (with_reducible refine ext_trans ?_ (by with_reducible assumption))))
    clear eW2
    refine wp_region_later fol (by kernel_rfl) (fun hlater => ?_)
    repeat (go_big_quiet_step ((first
        | (go_at_call 21; (with_reducible exact later_of (HLE.out _ (ext_trans hw2 (Later.ext _))))))))
    refine wpQuiet_nil ?_
    rintro w3 ⟨⟨w3x, hx3⟩, rfl⟩
    clear hlater
    go_wp2_with fail
    go_ret
    exact ⟨rb HA.out.symm, ext_trans hw2 hx3⟩

set_option maxRecDepth 100000 in
set_option maxHeartbeats 4000000 in
theorem ready_any {F G : Nat → Prop} {w : World} {v : Value} {cs : List Value} {l : List Int} {n : No} (h : RSl RInt 1 F w v l) (k : RNo G w cs n) :
    Calls Try.prog 14 #[v, .agg cs.toArray] w fun e w' => e = .returned (.tuple #[.bool (if checkI l = 0 ∧ checkN n = 0 then readyB l n else false), .int .i64 (if checkI l = 0 then checkN n else checkI l)]) ∧ Ext w w' := by
  have HC := Lib.hid (fun (W : World) (hx : Ext w W) => checkI_any (h.ext gInt hx))
  have HK := Lib.hid (fun (W : World) (hx : Ext w W) => checkNoteP_any (gNo.ext k hx))
  have HY := Lib.hid (fun (h5 : checkI l = 0) (k5 : checkN n = 0) (W : World) (hx : Ext w W) => mayP_any (h.ext gInt hx) (gNo.ext k hx) h5 k5)
  obtain ⟨a, nl, c, rfl⟩ := h.slice
  obtain ⟨v1, u1, rfl, hs, hk, hl, hq⟩ := k
  obtain ⟨st, nb, ne, dd⟩ := n
  simp only at hs hk hl hq HK HY ⊢
  obtain ⟨a2, n2, c2, rfl⟩ := hl.slice
  obtain ⟨a3, n3, c3, rfl⟩ := hq.slice
  clear h hs hk hl hq
  by_cases h0 : checkI l = 0
  · rw [if_pos h0]
    by_cases h1 : checkN ⟨st, nb, ne, dd⟩ = 0
    · rw [if_pos ⟨h0, h1⟩, h1]
      have HYY := Lib.hid (HY.out h0 h1)
      rw [h0] at HC
      rw [h1] at HK
      generalize readyB l ⟨st, nb, ne, dd⟩ = bb at *
      clear HY h0 h1
      go_enter Try.func14, Try.ntmps14
      go_wp2_with (first
        | (go_at_call 19; go_must ((with_reducible refine (HC.out _ (by repeat (first | (with_reducible exact ext_refl _) | (with_reducible assumption) | (with_reducible refine ext_drew ?_) | (with_reducible refine ext_drewN ?_ _) | (with_reducible refine ext_alloc ?_ _) | (with_reducible refine ext_set ?_ (by first | omega | (simp <;> omega)) _) | (with_reducible refine ext_trans ?_ (by with_reducible assumption))))).mono ?_); rintro e w1 ⟨rfl, hx1⟩; have hz1 := hx1.size; (try simp at hz1); have hb1_0 : w.heap.size < w1.heap.size := (by omega); have p0 := (hx1.cells (w.heap.size) (0) (by first | omega | (simp <;> omega))).trans (show _ = some (.int .i64 st) by first | assumption | go_simp); have p1 := (hx1.cells (w.heap.size) (1) (by first | omega | (simp <;> omega))).trans (show _ = some (.int .i64 nb) by first | assumption | go_simp); have p2 := (hx1.cells (w.heap.size) (2) (by first | omega | (simp <;> omega))).trans (show _ = some (.slice a2 n2 c2) by first | assumption | go_simp); have p3 := (hx1.cells (w.heap.size) (3) (by first | omega | (simp <;> omega))).trans (show _ = some (.slice a3 n3 c3) by first | assumption | go_simp)))
        | (go_at_call 28; go_must ((with_reducible refine (HK.out _ (by repeat (first | (with_reducible exact ext_refl _) | (with_reducible assumption) | (with_reducible refine ext_drew ?_) | (with_reducible refine ext_drewN ?_ _) | (with_reducible refine ext_alloc ?_ _) | (with_reducible refine ext_set ?_ (by first | omega | (simp <;> omega)) _) | (with_reducible refine ext_trans ?_ (by with_reducible assumption))))).mono ?_); rintro e w2 ⟨rfl, hx2⟩; have hz2 := hx2.size; (try simp at hz2); have hb2_0 : w.heap.size < w2.heap.size := (by omega); have q0 := (hx2.cells (w.heap.size) (0) (by first | omega | (simp <;> omega))).trans (show _ = some (.int .i64 st) by first | assumption | go_simp); have q1 := (hx2.cells (w.heap.size) (1) (by first | omega | (simp <;> omega))).trans (show _ = some (.int .i64 nb) by first | assumption | go_simp); have q2 := (hx2.cells (w.heap.size) (2) (by first | omega | (simp <;> omega))).trans (show _ = some (.slice a2 n2 c2) by first | assumption | go_simp); have q3 := (hx2.cells (w.heap.size) (3) (by first | omega | (simp <;> omega))).trans (show _ = some (.slice a3 n3 c3) by first | assumption | go_simp)))
        | (go_at_call 53; go_must ((with_reducible refine (HYY.out _ (by repeat (first | (with_reducible exact ext_refl _) | (with_reducible assumption) | (with_reducible refine ext_drew ?_) | (with_reducible refine ext_drewN ?_ _) | (with_reducible refine ext_alloc ?_ _) | (with_reducible refine ext_set ?_ (by first | omega | (simp <;> omega)) _) | (with_reducible refine ext_trans ?_ (by with_reducible assumption))))).mono ?_); rintro e w3 ⟨rfl, hx3⟩)))
      refine bodyPost_ret (v := .tuple #[.bool bb, .int .i64 0]) (by simp [results, Try.results14, go_sem]) rfl ⟨rfl, (by repeat (first | (with_reducible exact ext_refl _) | (with_reducible assumption) | (with_reducible refine ext_drew ?_) | (with_reducible refine ext_drewN ?_ _) | (with_reducible refine ext_alloc ?_ _) | (with_reducible refine ext_set ?_ (by first | omega | (simp <;> omega)) _) | (with_reducible refine ext_trans ?_ (by with_reducible assumption))))⟩
    · rw [if_neg (fun h => h1 h.2)]
      rw [h0] at HC
      have t1 : (checkN ⟨st, nb, ne, dd⟩ != 0) = true := by simpa using h1
      generalize checkN ⟨st, nb, ne, dd⟩ = r at *
      clear HY h0 h1
      go_enter Try.func14, Try.ntmps14
      go_wp2_with (first
        | (go_at_call 19; go_must ((with_reducible refine (HC.out _ (by repeat (first | (with_reducible exact ext_refl _) | (with_reducible assumption) | (with_reducible refine ext_drew ?_) | (with_reducible refine ext_drewN ?_ _) | (with_reducible refine ext_alloc ?_ _) | (with_reducible refine ext_set ?_ (by first | omega | (simp <;> omega)) _) | (with_reducible refine ext_trans ?_ (by with_reducible assumption))))).mono ?_); rintro e w1 ⟨rfl, hx1⟩; have hz1 := hx1.size; (try simp at hz1); have hb1_0 : w.heap.size < w1.heap.size := (by omega); have p0 := (hx1.cells (w.heap.size) (0) (by first | omega | (simp <;> omega))).trans (show _ = some (.int .i64 st) by first | assumption | go_simp); have p1 := (hx1.cells (w.heap.size) (1) (by first | omega | (simp <;> omega))).trans (show _ = some (.int .i64 nb) by first | assumption | go_simp); have p2 := (hx1.cells (w.heap.size) (2) (by first | omega | (simp <;> omega))).trans (show _ = some (.slice a2 n2 c2) by first | assumption | go_simp); have p3 := (hx1.cells (w.heap.size) (3) (by first | omega | (simp <;> omega))).trans (show _ = some (.slice a3 n3 c3) by first | assumption | go_simp)))
        | (go_at_call 28; go_must ((with_reducible refine (HK.out _ (by repeat (first | (with_reducible exact ext_refl _) | (with_reducible assumption) | (with_reducible refine ext_drew ?_) | (with_reducible refine ext_drewN ?_ _) | (with_reducible refine ext_alloc ?_ _) | (with_reducible refine ext_set ?_ (by first | omega | (simp <;> omega)) _) | (with_reducible refine ext_trans ?_ (by with_reducible assumption))))).mono ?_); rintro e w2 ⟨rfl, hx2⟩; have hz2 := hx2.size; (try simp at hz2); have hb2_0 : w.heap.size < w2.heap.size := (by omega); have q0 := (hx2.cells (w.heap.size) (0) (by first | omega | (simp <;> omega))).trans (show _ = some (.int .i64 st) by first | assumption | go_simp); have q1 := (hx2.cells (w.heap.size) (1) (by first | omega | (simp <;> omega))).trans (show _ = some (.int .i64 nb) by first | assumption | go_simp); have q2 := (hx2.cells (w.heap.size) (2) (by first | omega | (simp <;> omega))).trans (show _ = some (.slice a2 n2 c2) by first | assumption | go_simp); have q3 := (hx2.cells (w.heap.size) (3) (by first | omega | (simp <;> omega))).trans (show _ = some (.slice a3 n3 c3) by first | assumption | go_simp))))
      refine bodyPost_ret (v := .tuple #[.bool false, .int .i64 r]) (by simp [results, Try.results14, go_sem]) rfl ⟨rfl, (by repeat (first | (with_reducible exact ext_refl _) | (with_reducible assumption) | (with_reducible refine ext_drew ?_) | (with_reducible refine ext_drewN ?_ _) | (with_reducible refine ext_alloc ?_ _) | (with_reducible refine ext_set ?_ (by first | omega | (simp <;> omega)) _) | (with_reducible refine ext_trans ?_ (by with_reducible assumption))))⟩
  · rw [if_neg h0, if_neg (fun h => h0 h.1)]
    have t1 : (checkI l != 0) = true := by simpa using h0
    generalize checkI l = r at *
    clear HY h0
    go_enter Try.func14, Try.ntmps14
    go_wp2_with (first
      | (go_at_call 19; go_must ((with_reducible refine (HC.out _ (by repeat (first | (with_reducible exact ext_refl _) | (with_reducible assumption) | (with_reducible refine ext_drew ?_) | (with_reducible refine ext_drewN ?_ _) | (with_reducible refine ext_alloc ?_ _) | (with_reducible refine ext_set ?_ (by first | omega | (simp <;> omega)) _) | (with_reducible refine ext_trans ?_ (by with_reducible assumption))))).mono ?_); rintro e w1 ⟨rfl, hx1⟩; have hz1 := hx1.size; (try simp at hz1); have hb1_0 : w.heap.size < w1.heap.size := (by omega); have p0 := (hx1.cells (w.heap.size) (0) (by first | omega | (simp <;> omega))).trans (show _ = some (.int .i64 st) by first | assumption | go_simp); have p1 := (hx1.cells (w.heap.size) (1) (by first | omega | (simp <;> omega))).trans (show _ = some (.int .i64 nb) by first | assumption | go_simp); have p2 := (hx1.cells (w.heap.size) (2) (by first | omega | (simp <;> omega))).trans (show _ = some (.slice a2 n2 c2) by first | assumption | go_simp); have p3 := (hx1.cells (w.heap.size) (3) (by first | omega | (simp <;> omega))).trans (show _ = some (.slice a3 n3 c3) by first | assumption | go_simp))))
    refine bodyPost_ret (v := .tuple #[.bool false, .int .i64 r]) (by simp [results, Try.results14, go_sem]) rfl ⟨rfl, (by repeat (first | (with_reducible exact ext_refl _) | (with_reducible assumption) | (with_reducible refine ext_drew ?_) | (with_reducible refine ext_drewN ?_ _) | (with_reducible refine ext_alloc ?_ _) | (with_reducible refine ext_set ?_ (by first | omega | (simp <;> omega)) _) | (with_reducible refine ext_trans ?_ (by with_reducible assumption))))⟩
end Go.Proofs.Ytghfmgndddjofaa
