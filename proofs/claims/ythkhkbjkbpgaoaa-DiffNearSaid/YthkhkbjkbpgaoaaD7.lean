/- The table of all rests, from the ends on: the walk. -/
import Derived.Test.YthkhkbjkbpgaoaaD6
import Derived.Test.YthkhkbjkbpgaoaaTab
import Derived.Test.YthkhkbjkbpgaoaaLate2
import Derived.RegionTactic
import Derived.BigRegion
set_option linter.unusedVariables false
set_option linter.unusedSimpArgs false
namespace Go.Proofs.Ythkhkbjkbpgaoaa
open Go Go.RowKit Go.BigFrame Cp

theorem info_ints : (Try.prog.info? 89).map (fun i => (i.zero, i.size, i.bytes)) = some (some (.slice none 0 0), 1, 24) := by kernel_rfl
theorem make_eq {P : Program} {t e : TypeId} {i : TypeInfo} {z : Value} (ht : P.underlying t = some (.slice e)) (hi : P.info? e = some i) (hz : i.zero = some z) (h1 : i.size = 1) (n : Nat) (hb : i.bytes ≤ 24) (hn : n ≤ 300) (W : World) :
    (Instr.makeSlice t (.int .i64 ((n : Int) + 1)) (.int .i64 ((n : Int) + 1))).run P W = .ok (.slice (some ⟨W.heap.size, 0, none⟩) (n + 1) (n + 1)) (W.alloc (.cells (madeCells z.cells (n + 1)) e)) := by
  have h2 : (i.bytes : Int) * ((n : Int) + 1) ≤ 24 * 301 := Int.mul_le_mul (by omega) (by omega) (by omega) (by omega)
  have h := run_make (P := P) W t e i z ht hi hz .i64 .i64 ((n : Int) + 1) ((n : Int) + 1) (by omega) (Int.le_refl _) (by omega) (by omega)
  rw [h, h1]
  have e1 : ((n : Int) + 1).toNat = n + 1 := by omega
  rw [e1, Nat.mul_one]
/-- the differ's own cells -/
structure D3 (W : World) (D : Nat) (s u : ByteArray) (G n : Nat) : Prop where
  a : W.cell? ⟨D, 0, none⟩ = some (.string s)
  b : W.cell? ⟨D, 1, none⟩ = some (.string u)
  c : W.cell? ⟨D, 2, none⟩ = some (.slice (some ⟨G, 0, none⟩) (n + 1) (n + 1))
  lt : D < W.heap.size
theorem D3.keep {W W' : World} {D : Nat} {s u : ByteArray} {G n : Nat} (h : D3 W D s u G n) (hs : W.heap.size ≤ W'.heap.size) (hb : W'.heap[D]? = W.heap[D]?) : D3 W' D s u G n :=
  ⟨(World.cell?_of_block (w := W) (a := ⟨D, 0, none⟩) hb).trans h.a, (World.cell?_of_block (w := W) (a := ⟨D, 1, none⟩) hb).trans h.b, (World.cell?_of_block (w := W) (a := ⟨D, 2, none⟩) hb).trans h.c, Nat.lt_of_lt_of_le h.lt hs⟩
theorem half_next {W : World} {G n m k e : Nat} {g : Nat → Nat} (h : Half W G n m k g) (hk : k ≤ n) :
    Half ((W.setCell ⟨G, k, none⟩ (.slice (some ⟨W.heap.size, 0, none⟩) (m + 1) (m + 1))).alloc (.cells (madeCells #[.int .i64 0] (m + 1)) e)).drew G n m (k + 1) (fun i => if i = k then W.heap.size else g i) := by
  have h1 := h.step (e := e) hk
  rw [World.setCell_alloc_past (hn := h.lt)] at h1
  exact h1.keep (Nat.le_refl _) (fun _ _ _ => rfl)
theorem d3_next {W : World} {D G k n : Nat} {s u : ByteArray} {v : Value} {o : Obj} (h : D3 W D s u G n) (hD : D < G) : D3 ((W.setCell ⟨G, k, none⟩ v).alloc o).drew D s u G n :=
  h.keep (show W.heap.size ≤ ((W.setCell ⟨G, k, none⟩ v).alloc o).heap.size by simp) ((Below.heap_alloc (W.setCell ⟨G, k, none⟩ v) o D (by simpa using h.lt)).trans (Below.heap_setCell W ⟨G, k, none⟩ v D (by first | exact Nat.ne_of_lt hD | exact Nat.ne_of_gt hD)))
theorem half_zero {w : World} {D n m e : Nat} {v : Value} (hD : D < w.heap.size) : Half ((w.setCell ⟨D, 2, none⟩ v).alloc (.cells (madeCells #[.slice none 0 0] (n + 1)) e)) w.heap.size n m 0 (fun _ => 0) := by
  have h := half_start (w := w.setCell ⟨D, 2, none⟩ v) (n := n) (m := m) (e := e) rfl
  rw [World.size_setCell] at h
  exact h
theorem tab_drew {W : World} {G n m : Nat} {g : Nat → Nat} {f : Nat → Nat → Int} (h : Tab W G n m g f) : Tab W.drew G n m g f := h.keep (Nat.le_refl _) (fun _ _ => rfl)
theorem tab_drewN {W : World} {G n m k : Nat} {g : Nat → Nat} {f : Nat → Nat → Int} (h : Tab W G n m g f) : Tab (W.drewN k) G n m g f := h.ext (ext_drewN (ext_refl _) _)
theorem d3_put {W : World} {D b k G n : Nat} {s u : ByteArray} {v : Value} (h : D3 W D s u G n) (hD : ¬ D = b) : D3 (W.setCell ⟨b, k, none⟩ v).drew D s u G n :=
  h.keep (show W.heap.size ≤ (W.setCell ⟨b, k, none⟩ v).heap.size by simp) (Below.heap_setCell W ⟨b, k, none⟩ v D hD)
theorem d3_set {W : World} {D b k G n : Nat} {s u : ByteArray} {v : Value} (h : D3 W D s u G n) (hD : ¬ D = b) : D3 (W.setCell ⟨b, k, none⟩ v) D s u G n :=
  h.keep (show W.heap.size ≤ (W.setCell ⟨b, k, none⟩ v).heap.size by simp) (Below.heap_setCell W ⟨b, k, none⟩ v D hD)
theorem d3_ext {W W' : World} {D G n : Nat} {s u : ByteArray} (h : D3 W D s u G n) (hx : Ext W W') : D3 W' D s u G n := h.keep hx.size (Below.block hx D h.lt)
def lcsT (s u : ByteArray) (i k : Nat) : Int := (lcs (s.data.toList.drop i) (u.data.toList.drop k) : Nat)
theorem lcsT_le (s u : ByteArray) (i k : Nat) (hs : s.size ≤ 300) : 0 ≤ lcsT s u i k ∧ lcsT s u i k ≤ 300 := by
  have h := (lcs_le (s.data.toList.drop i) (u.data.toList.drop k)).1
  have h2 : (s.data.toList.drop i).length = s.size - i := by rw [List.length_drop, Array.length_toList]; rfl
  unfold lcsT
  omega
theorem lcsT_cons {s u : ByteArray} {r t : Nat} (hr : r < s.size) (ht : t < u.size) : lcsT s u r t = if s[r] = u[t] then 1 + lcsT s u (r + 1) (t + 1) else max (lcsT s u (r + 1) t) (lcsT s u r (t + 1)) := by
  unfold lcsT
  have e1 : s.data.toList.drop r = s[r] :: s.data.toList.drop (r + 1) := List.drop_eq_getElem_cons (by simpa using hr)
  have e2 : u.data.toList.drop t = u[t] :: u.data.toList.drop (t + 1) := List.drop_eq_getElem_cons (by simpa using ht)
  rw [e1, e2, lcs_cons]
  split
  · omega
  · rw [← e1, ← e2]; omega
theorem step_fill {s u : ByteArray} {n m r t : Nat} {f : Nat → Nat → Int} {X : Int} (hX : X = lcsT s u r t)
    (hf : ∀ i j, i ≤ n → j ≤ m → ¬ (i = r ∧ j = t) → f i j = if r + 1 ≤ i then lcsT s u i j else if i = r ∧ t + 1 ≤ j then lcsT s u i j else 0) :
    ∀ i j, i ≤ n → j ≤ m → (if r + 1 ≤ i then lcsT s u i j else if i = r ∧ t ≤ j then lcsT s u i j else 0) = if i = r ∧ j = t then X else f i j := by
  intro i j hi hj
  by_cases h : i = r ∧ j = t
  · rw [show (if i = r ∧ j = t then X else f i j) = X from if_pos h, hX, h.1, h.2, if_neg (by omega), if_pos ⟨rfl, Nat.le_refl _⟩]
  · rw [show (if i = r ∧ j = t then X else f i j) = f i j from if_neg h, hf i j hi hj h]
    by_cases h1 : r + 1 ≤ i
    · rw [if_pos h1, if_pos h1]
    · rw [if_neg h1, if_neg h1]
      by_cases h2 : i = r ∧ t + 1 ≤ j
      · rw [if_pos h2, if_pos ⟨h2.1, by omega⟩]
      · rw [if_neg h2, if_neg (by omega)]
/-- the table is made -/
def IsTab (w0 w : World) (D : Nat) (s u : ByteArray) (e : Ending) (w' : World) : Prop :=
  e = .returned (.tuple #[]) ∧ Ext w0 w' ∧ ∃ g, D3 w' D s u w.heap.size s.size ∧ Tab w' w.heap.size s.size u.size g (lcsT s u)

set_option maxRecDepth 100000 in
set_option maxHeartbeats 4000000 in
theorem table_any {w0 w : World} {D : Nat} {s u : ByteArray} {v0 : Value} (hw0 : Ext w0 w) (hD0 : w0.heap.size ≤ D) (hD : D < w.heap.size) (h0 : w.cell? ⟨D, 0, none⟩ = some (.string s)) (h1 : w.cell? ⟨D, 1, none⟩ = some (.string u))
    (h2 : w.cell? ⟨D, 2, none⟩ = some v0) (hf : w.frozen? ⟨D, 2, none⟩ = false) (hs : s.size ≤ 300) (hu : u.size ≤ 300) :
    Calls Try.prog 86 #[.pointer (some ⟨D, 0, none⟩)] w (IsTab w0 w D s u) := by
  obtain ⟨i0, hi0, hz0, hz1, hz2⟩ := info_parts info_ints
  obtain ⟨i1, hi1, hy0, hy1, hy2⟩ := info_parts info_int
  have hmk1 := make_eq Try.underlying116 hi0 hz0 hz1 s.size (by omega) hs
  have hmk2 := make_eq Try.underlying89 hi1 hy0 hy1 u.size (by omega) hu
  have hcz : (Value.slice none 0 0).cells = #[.slice none 0 0] := rfl
  have hcy : (Value.int .i64 0).cells = #[.int .i64 0] := rfl
  rw [hcz] at hmk1
  rw [hcy] at hmk2
  have HM1 := Lib.hid hmk1
  have HM2 := Lib.hid hmk2
  have HW0 := Lib.hid hw0
  clear hi0 hz0 hz1 hz2 hi1 hy0 hy1 hy2 hcz hcy hmk1 hmk2 hw0
  have hmk := HM1.out
  go_enter Try.func86, Try.ntmps86
  go_wp2_with fail
  clear hmk
  go_loopw [20] (fun ix wr => ∃ (k : Nat) (g : Nat → Nat), k ≤ s.size + 1 ∧ ix = .int .i64 k ∧ Hid (Half wr w.heap.size s.size u.size k g) ∧ Hid (D3 wr D s u w.heap.size s.size) ∧ Ext w0 wr) (fun ix _ => s.size + 1 - (intOf ix).toNat)
  case atStart => exact ⟨0, _, by omega, rfl, half_zero hD, ⟨by go_simp, by go_simp, by go_simp, by simp; omega⟩, ext_alloc (ext_set HW0.out hD0 _) _⟩
  case round =>
    obtain ⟨k, g, hk, rfl, HH, HD, hx⟩ := hrel
    have HX := Lib.hid hx
    clear hx
    have d0 := HD.out.a
    have d1 := HD.out.b
    have d2 := HD.out.c
    have hGl := HH.out.lt
    have hDl := HD.out.lt
    by_cases hlt : k ≤ s.size
    · have c0 := HH.out.nils k (Nat.le_refl _) hlt
      have f0 := HH.out.fro k hlt
      have hmk := HM2.out
      have hw1 : IntKind.i64.wrap ((u.size : Int) + 1) = (u.size : Int) + 1 := IntWalk.i64_in _ (by omega)
      go_wp2_with fail
      go_region
      clear hmk hw1
      go_wp2_with fail
      go_roundw
      case rel => exact ⟨k + 1, _, by omega, by go_num, half_next HH.out hlt, d3_next HD.out hD, ext_drew (ext_alloc (ext_set HX.out (by simp only []; omega) _) _)⟩
      case measure => simp [intOf] <;> omega
    · obtain rfl : k = s.size + 1 := by omega
      have HT := Lib.hid (HH.out.tab.same (f' := fun i j => if s.size ≤ i then lcsT s u i j else 0) (fun i j hi hj => by split; (· unfold lcsT; rw [List.drop_eq_nil_of_le (by simpa using ‹s.size ≤ i›)]; simp [lcs]); (· rfl)))
      have HGL := Lib.hid hGl
      clear HH
      rw [show ((s.size + 1 : Nat) : Int) = (s.size : Int) + 1 from by omega]
      go_wp2_with fail
      go_loopw [3] (fun i wr => ∃ p : Nat, p ≤ s.size ∧ i = .int .i64 ((p : Int) - 1) ∧ Hid (Tab wr w.heap.size s.size u.size g (fun i j => if p ≤ i then lcsT s u i j else 0)) ∧ Hid (D3 wr D s u w.heap.size s.size) ∧ Ext w0 wr) (fun i _ => (intOf i + 1).toNat)
      case atStart => exact ⟨s.size, Nat.le_refl _, rfl, HT.out, HD.out, HX.out⟩
      case round =>
        obtain ⟨p, hp, rfl, HT, HD, hx⟩ := hrel
        obtain ⟨wo, rfl⟩ : ∃ wo : World, wo = wr := ⟨_, rfl⟩
        have HX := Lib.hid hx
        clear hx
        have d0 := HD.out.a
        have d1 := HD.out.b
        have hDl := HD.out.lt
        by_cases hp0 : p = 0
        · subst hp0
          have HT0 := Lib.hid (HT.out.same (f' := lcsT s u) (fun i j _ _ => by rw [if_pos (Nat.zero_le _)]))
          go_wp2_with fail
          go_end0
          exact ⟨rfl, HX.out, g, HD.out, HT0.out⟩
        · obtain ⟨r, rfl⟩ : ∃ r, p = r + 1 := ⟨p - 1, by omega⟩
          rw [show ((r + 1 : Nat) : Int) - 1 = (r : Int) by omega]
          have HT1 := Lib.hid (HT.out.same (f' := fun i j => if r + 1 ≤ i then lcsT s u i j else if i = r ∧ u.size ≤ j then lcsT s u i j else 0) (fun i j hi hj => by by_cases h1 : r + 1 ≤ i; (· rw [if_pos h1, if_pos h1]); (· rw [if_neg h1, if_neg h1]; split; (· rename_i h9; unfold lcsT; rw [show u.data.toList.drop j = [] from List.drop_eq_nil_of_le (by simpa using h9.2), lcs_nil_r]; rfl); (· rfl))))
          clear HT
          go_wp2_with fail
          go_loopw [4] (fun k wr => ∃ q : Nat, q ≤ u.size ∧ k = .int .i64 ((q : Int) - 1) ∧ Hid (Tab wr w.heap.size s.size u.size g (fun i j => if r + 1 ≤ i then lcsT s u i j else if i = r ∧ q ≤ j then lcsT s u i j else 0)) ∧ Hid (D3 wr D s u w.heap.size s.size) ∧ Ext w0 wr) (fun k _ => (intOf k + 1).toNat)
          case atStart => exact ⟨u.size, Nat.le_refl _, rfl, HT1.out, HD.out, HX.out⟩
          case round =>
            obtain ⟨q, hq, rfl, HT, HD, hx⟩ := hrel
            have HX := Lib.hid hx
            clear hx
            have d0 := HD.out.a
            have d1 := HD.out.b
            have d2 := HD.out.c
            have hDl := HD.out.lt
            by_cases hq0 : q = 0
            · subst hq0
              have HT0 := Lib.hid (HT.out.same (f' := fun i j => if r ≤ i then lcsT s u i j else 0) (fun i j _ _ => by by_cases h1 : r + 1 ≤ i; (· rw [if_pos h1, if_pos (by omega)]); (· rw [if_neg h1]; by_cases h2 : i = r; (· rw [if_pos ⟨h2, Nat.zero_le _⟩, if_pos (by omega)]); (· rw [if_neg (fun h => h2 h.1), if_neg (by omega)]))))
              go_wp2_with fail
              go_roundw
              case rel => exact ⟨r, by omega, by go_num, HT0.out, HD.out, HX.out⟩
              case measure => simp [intOf] <;> omega
            · obtain ⟨t, rfl⟩ : ∃ t, q = t + 1 := ⟨q - 1, by omega⟩
              rw [show ((t + 1 : Nat) : Int) - 1 = (t : Int) by omega]
              have hr1 : r < s.size := by omega
              have ht1 : t < u.size := by omega
              have hrow := HT.out.row r (by omega)
              have hrow1 := HT.out.row (r + 1) (by omega)
              obtain ⟨nA, _⟩ := HT.out.num (r + 1) t (by omega) (by omega)
              obtain ⟨nB, _⟩ := HT.out.num r (t + 1) (by omega) (by omega)
              obtain ⟨nC, _⟩ := HT.out.num (r + 1) (t + 1) (by omega) (by omega)
              obtain ⟨n0, f0⟩ := HT.out.num r t (by omega) (by omega)
              rw [if_pos (by omega)] at nA nC
              rw [if_neg (by omega), if_pos (by omega)] at nB
              rw [if_neg (by omega), if_neg (by omega)] at n0
              have hls := lcsT_cons (s := s) (u := u) (r := r) (t := t) (by omega) (by omega)
              have bA := lcsT_le s u (r + 1) t hs
              have bB := lcsT_le s u r (t + 1) hs
              have bC := lcsT_le s u (r + 1) (t + 1) hs
              have hne : ¬ g (r + 1) = g r := fun e => absurd (HT.out.inj (r + 1) r (by omega) (by omega) e) (by omega)
              have HPUT := Lib.hid (fun (W : World) (f : Nat → Nat → Int) (hT : Tab W w.heap.size s.size u.size g f) (hf : ∀ i j, i ≤ s.size → j ≤ u.size → ¬ (i = r ∧ j = t) → f i j = if r + 1 ≤ i then lcsT s u i j else if i = r ∧ t + 1 ≤ j then lcsT s u i j else 0) (X : Int) (hX : X = lcsT s u r t) =>
                hT.put (r := r) (k := t) (x := X) (f' := fun i j => if r + 1 ≤ i then lcsT s u i j else if i = r ∧ t ≤ j then lcsT s u i j else 0) (by omega) (by omega) (step_fill hX hf))
              obtain ⟨hg1, hg2⟩ := HT.out.off r (by omega)
              generalize lcsT s u (r + 1) t = vA at *
              generalize lcsT s u r (t + 1) = vB at *
              obtain ⟨vC, hvc⟩ : ∃ vC : Int, lcsT s u (r + 1) (t + 1) = vC := ⟨_, rfl⟩
              have HVC := Lib.hid hvc
              rw [hvc] at hls bC nC
              clear hvc
              generalize lcsT s u r t = vD at *
              have HLS := Lib.hid hls
              clear hls
              have hn1 : ¬ g (r + 1) = g r := hne
              have hn2 : ¬ w.heap.size = g r := by omega
              have hn3 : ¬ D = g r := by omega
              clear hne
              obtain ⟨a1, a2⟩ := bA
              obtain ⟨b1, b2⟩ := bB
              obtain ⟨e1, e2⟩ := bC
              have HHT := Lib.hid HT.out
              have hw1 : IntKind.i64.wrap ((r : Int) + 1) = (r : Int) + 1 := IntWalk.i64_in _ (by omega)
              have hw2 : IntKind.i64.wrap ((t : Int) + 1) = (t : Int) + 1 := IntWalk.i64_in _ (by omega)
              go_wp2_with fail
              refine wp_region_tail 32 fol (by kernel_rfl) (fun W hW => ?_)
              subst hW
              simp only [List.take_succ_cons, List.take_zero, List.drop_succ_cons, List.drop_zero]
              repeat (go_big_quiet_step (fail))
              refine wpQuiet_nil ?_
              go_wp2_with fail
              all_goals
                refine wp_name (fun w1 ew => ?_)
                obtain ⟨X1, hX1, ew1⟩ : ∃ X1 : Int, X1 = max vA vB ∧ w1 = (wr.setCell ⟨g r, t, none⟩ (.int .i64 X1)).drew := ⟨_, (by omega), ew⟩
                have HT1 := tab_drew (HHT.out.put (r := r) (k := t) (x := X1) (f' := fun i j => if i = r ∧ j = t then X1 else if r + 1 ≤ i then lcsT s u i j else if i = r ∧ t + 1 ≤ j then lcsT s u i j else 0) (by omega) (by omega) (fun _ _ _ _ => rfl))
                have HD1 : D3 w1 D s u w.heap.size s.size := by rw [ew1]; exact d3_put HD.out hn3
                have HX1 : Ext w0 w1 := by rw [ew1]; exact ext_drew (ext_set HX.out (show w0.heap.size ≤ g r by omega) _)
                have HTF := Lib.hid (fun (hX : X1 = vD) => tab_drew (HPUT.out wr _ HHT.out (fun _ _ _ _ _ => rfl) X1 hX))
                rw [← ew1] at HT1 HTF
                clear ew ew1
                have hrow' := HT1.row r (by omega)
                have hrow1' := HT1.row (r + 1) (by omega)
                obtain ⟨nC', _⟩ := HT1.num (r + 1) (t + 1) (by omega) (by omega)
                obtain ⟨n0', f0'⟩ := HT1.num r t (by omega) (by omega)
                rw [if_neg (by omega), if_pos (by omega)] at nC'
                have HEC := Lib.hid (show lcsT s u (r + 1) (t + 1) = vC from HVC.out)
                rw [HEC.out] at nC'
                have HHT1 := Lib.hid HT1
                have HHD1 := Lib.hid HD1
                have HHX1 := Lib.hid HX1
                have c0 := HD1.a
                have c1 := HD1.b
                have c2 := HD1.c
                clear HT1 HD1 HX1
                by_cases g2 : s[r] = u[t]
                · have t2 : ((s[r].toNat : Int) == (u[t].toNat : Int)) = true := by rw [g2]; simp
                  have hvd : vD = 1 + vC := by rw [HLS.out, if_pos g2]
                  have HVD := Lib.hid hvd
                  clear g2 hvd
                  go_quiet (fail)
                  go_wp2_with fail
                  refine wp_region_tail 22 fol (by kernel_rfl) (fun W hW => ?_)
                  subst hW
                  simp only [List.take_succ_cons, List.take_zero, List.drop_succ_cons, List.drop_zero]
                  repeat (go_big_quiet_step (fail))
                  refine wpQuiet_nil ?_
                  go_wp2_with fail
                  go_roundw
                  case rel => exact ⟨t, by omega, rfl, HPUT.out _ _ (tab_drewN HHT1.out) (fun _ _ _ _ h => if_neg h) _ HVD.out.symm, d3_set (d3_ext HHD1.out (ext_drewN (ext_refl _) _)) hn3, ext_set (ext_drewN HHX1.out _) (show w0.heap.size ≤ g r by omega) _⟩
                  case measure => simp [intOf] <;> omega
                · have t2 : ((s[r].toNat : Int) == (u[t].toNat : Int)) = false := by
                    rw [beq_eq_false_iff_ne]; intro h; apply g2; apply UInt8.toNat_inj.1; omega
                  have hvd : vD = max vA vB := by rw [HLS.out, if_neg g2]
                  have HVD := Lib.hid (show X1 = vD by omega)
                  clear g2 hvd
                  go_quiet (fail)
                  go_wp2_with fail
                  go_roundw
                  case rel => exact ⟨t, by omega, rfl, tab_drewN (HTF.out HVD.out), d3_ext HHD1.out (ext_drewN (ext_refl _) _), ext_drewN HHX1.out _⟩
                  case measure => simp [intOf] <;> omega
end Go.Proofs.Ythkhkbjkbpgaoaa
