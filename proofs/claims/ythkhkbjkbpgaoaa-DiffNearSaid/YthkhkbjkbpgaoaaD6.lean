/- How many signs must be put and taken: the walk. -/
import Derived.Test.YthkhkbjkbpgaoaaD5
import Derived.Test.YthkhkbjkbpgaoaaW7
set_option linter.unusedVariables false
set_option linter.unusedSimpArgs false
namespace Go.Proofs.Ythkhkbjkbpgaoaa
open Go Go.RowKit Go.BigFrame Cp

theorem info_int : (Try.prog.info? 3).map (fun i => (i.zero, i.size, i.bytes)) = some (some (.int .i64 0), 1, 8) := by kernel_rfl
/-- a row of numbers -/
def rowL (f : Nat → Int) (n : Nat) : List Int := (List.range n).map f
theorem rowL_len (f : Nat → Int) (n : Nat) : (rowL f n).length = n := by simp [rowL]
theorem rowL_get {f : Nat → Int} {n i : Nat} (h : i < n) : (rowL f n)[i]? = some (f i) := by simp [rowL, h]
theorem rowL_set (f : Nat → Int) (n i : Nat) (x : Int) : (rowL f n).set i x = rowL (fun j => if j = i then x else f j) n := by
  apply List.ext_getElem?
  intro j
  by_cases hj : j < n
  · rw [rowL_get hj]
    by_cases hji : j = i
    · subst hji
      rw [List.getElem?_set_self (by rw [rowL_len]; exact hj), if_pos rfl]
    · rw [List.getElem?_set_ne (Ne.symm hji), rowL_get hj, if_neg hji]
  · rw [List.getElem?_eq_none (by simp [rowL]; omega), List.getElem?_eq_none (by simp [rowL]; omega)]
theorem osl_made {e base : Nat} {F : Nat → Prop} {w : World} {v : Value} {n : Nat} (h : w.ownsRow base e 1 v n (madeCells (Value.int .i64 0).cells (n * 1)).toList) : OSl RInt 1 e base F w v (rowL (fun _ => 0) n) := by
  have e1 : (madeCells (Value.int .i64 0).cells (n * 1)).toList = List.replicate n (.int .i64 0) := by
    rw [Nat.mul_one]; exact toList_madeCells_one _ _
  rw [e1] at h
  refine ⟨List.replicate n (.int .i64 0), by rw [rowL_len]; exact h, by simp [rowL], fun i x hi => ?_⟩
  have hi' : i < n := by
    have := (List.getElem?_eq_some_iff.1 hi).1
    rwa [rowL_len] at this
  rw [rowL_get hi'] at hi
  have hx : (0 : Int) = x := by simpa using hi
  subst hx
  refine ⟨?_, by unfold I64; omega⟩
  rw [Nat.mul_one]
  apply List.ext_getElem?
  intro j
  by_cases hj : j < 1
  · obtain rfl : j = 0 := by omega
    rw [List.getElem?_take_of_lt (by omega), List.getElem?_drop]
    simp [hi']
  · rw [List.getElem?_eq_none (by simp; omega), List.getElem?_eq_none (by simp; omega)]
/-- a number of a row, where it lies -/
theorem row_at {e base : Nat} {F : Nat → Prop} {w : World} {g n c : Nat} {f : Nat → Int} {m i : Nat} (h : OSl RInt 1 e base F w (.slice (some ⟨g, 0, none⟩) n c) (rowL f m)) (hi : i < m) :
    base ≤ g ∧ g < w.heap.size ∧ w.cell? ⟨g, i, none⟩ = some (.int .i64 (f i)) ∧ I64 (f i) ∧ w.frozen? ⟨g, i, none⟩ = false := by
  obtain ⟨g', x, cs, _, ha, hb, hs, hx, _, hr, ⟨rfl, hI⟩, hf⟩ := osl_at h (i := i) (by rw [rowL_len]; exact hi)
  injection ha with ha
  injection ha with ha _ _
  subst ha
  rw [rowL_get hi] at hx
  have : f i = x := by simpa using hx
  subst this
  exact ⟨hb, hs, by simpa using hr 0 _ rfl, hI, hf i⟩
theorem row_put {e base : Nat} {F : Nat → Prop} {w : World} {g n c : Nat} {f f' : Nat → Int} {m i : Nat} {x : Int} (h : OSl RInt 1 e base F w (.slice (some ⟨g, 0, none⟩) n c) (rowL f m)) (hi : i < m) (hx : I64 x)
    (hf : ∀ j, j < m → f' j = if j = i then x else f j) : OSl RInt 1 e base F (w.setCell ⟨g, i, none⟩ (.int .i64 x)) (.slice (some ⟨g, 0, none⟩) n c) (rowL f' m) := by
  have h1 := osl_put gInt h (i := i) (j := 0) (by rw [rowL_len]; exact hi) (by omega) (u := .int .i64 x) (x := x) (fun G W cs y _ hy => by obtain ⟨rfl, _⟩ := hy; exact ⟨rfl, hx⟩)
  rw [rowL_set] at h1
  have e1 : rowL (fun j => if j = i then x else f j) m = rowL f' m := List.map_congr_left (fun j hj => (hf j (List.mem_range.1 hj)).symm)
  rw [e1] at h1
  simpa using h1
theorem row_same {m : Nat} {f f' : Nat → Int} (h : ∀ j, j < m → f j = f' j) : rowL f m = rowL f' m := List.map_congr_left (fun j hj => h j (List.mem_range.1 hj))

theorem far_le (a b : Tx) : far a b ≤ a.length + b.length := by unfold far; omega

set_option maxRecDepth 100000 in
set_option maxHeartbeats 4000000 in
theorem farOf_any (s u : ByteArray) (w : World) (hs : s.size ≤ 300) (hu : u.size ≤ 300) :
    Calls Try.prog 21 #[.string s, .string u] w fun e w' => e = .returned (.int .i64 (far s.data.toList u.data.toList : Nat)) ∧ Ext w w' := by
  obtain ⟨i0, hi0, hz0, hz1, hz2⟩ := info_parts info_int
  have HI := Lib.hid hi0
  have HZ0 := Lib.hid hz0
  have HZ1 := Lib.hid hz1
  have HZ2 := Lib.hid hz2
  clear hi0 hz0 hz1 hz2
  go_enter Try.func21, Try.ntmps21
  go_wp2_with (at_make; go_must (refine wpList_make_full _ rfl _ _ 89 rfl w.heap.size 3 i0 _ 1 Try.underlying89 HI.out HZ0.out HZ1.out .i64 .i64 _ _ (u.size + 1) rfl rfl (by omega) (by omega) (by rw [HZ2.out]; omega) (by unfold maxLen; omega) (Nat.le_refl _) ?_; intro w1 hown1 hg1; have HO1 := Lib.hid (osl_made (F := fun _ => True) hown1); have hx1 : Ext w w1 := ext_grown (ext_refl _) hg1 (fun k hk => by cases hk); have HX1 := Lib.hid hx1; clear hown1 hg1 hx1))
  go_loopw [6] (fun i wr => ∃ k : Nat, k ≤ u.size + 1 ∧ i = .int .i64 k ∧ Hid (OSl RInt 1 3 w.heap.size (fun _ => True) wr (.slice (some ⟨w.heap.size, 0, none⟩) (u.size + 1) (u.size + 1)) (rowL (fun j => if j < k then (j : Int) else 0) (u.size + 1))) ∧ Ext w wr) (fun i _ => u.size + 1 - (intOf i).toNat)
  case atStart => exact ⟨0, by omega, rfl, (show OSl _ _ _ _ _ _ _ _ by rw [← row_same (f := fun _ => 0) (f' := fun j => if j < 0 then (j : Int) else 0) (fun j _ => by simp)]; exact HO1.out), HX1.out⟩
  case round =>
    obtain ⟨k, hk, rfl, HR, hx⟩ := hrel
    have HX := Lib.hid hx
    clear hx
    by_cases hlt : k ≤ u.size
    · obtain ⟨_, hg, c0, _, f0⟩ := row_at HR.out (i := k) (by omega)
      go_wp2_with fail
      go_roundw
      case rel => exact ⟨k + 1, by omega, by go_num, row_put HR.out (by omega) (by unfold I64; omega) (fun j hj => by by_cases hjk : j = k; (· rw [if_pos (by omega), if_pos hjk, hjk]); (· rw [if_neg hjk]; by_cases h2 : j < k; (· rw [if_pos h2, if_pos (by omega)]); (· rw [if_neg h2, if_neg (by omega)]))), ext_set HX.out (Nat.le_refl _) _⟩
      case measure => simp [intOf]; omega
    · have H2 := Lib.hid ((row_same (m := u.size + 1) (f := fun j => if j < k then (j : Int) else 0) (f' := fun j => (far (s.data.toList.take 0) (u.data.toList.take j) : Int)) (fun j hj => by rw [if_pos (by omega)]; simp only [List.take_zero, far_nil_l, List.length_take, Array.length_toList]; show (j : Int) = ((min j u.size : Nat) : Int); omega)) ▸ HR.out)
      clear HR
      go_wp2_with fail
      go_loopw [7] (fun i wr => ∃ p : Nat, p ≤ s.size ∧ i = .int .i64 ((p : Int) + 1) ∧ Hid (OSl RInt 1 3 w.heap.size (fun _ => True) wr (.slice (some ⟨w.heap.size, 0, none⟩) (u.size + 1) (u.size + 1)) (rowL (fun j => (far (s.data.toList.take p) (u.data.toList.take j) : Int)) (u.size + 1))) ∧ Ext w wr) (fun i _ => s.size + 1 - (intOf i).toNat)
      case atStart => exact ⟨0, by omega, rfl, H2.out, HX.out⟩
      case round =>
        obtain ⟨p, hp, rfl, HP, hx2⟩ := hrel
        obtain ⟨wo, rfl⟩ : ∃ wo : World, wo = wr := ⟨_, rfl⟩
        have HX2 := Lib.hid hx2
        clear hx2
        by_cases hlp : p < s.size
        · have t0 : decide ((p : Int) + 1 ≤ (s.size : Int)) = true := decide_eq_true (by omega)
          obtain ⟨_, hg0, c0, _, f0⟩ := row_at HP.out (i := 0) (by omega)
          simp only [List.take_zero, far_nil_r, List.length_take, Array.length_toList] at c0
          have e0 : min p s.data.size = p := Nat.min_eq_left (by exact hp)
          rw [e0] at c0
          have HP0 := Lib.hid (row_put HP.out (i := 0) (x := (p : Int) + 1) (f' := fun j => if j ≤ 0 then (far (s.data.toList.take (p + 1)) (u.data.toList.take j) : Int) else (far (s.data.toList.take p) (u.data.toList.take j) : Int)) (by omega) (by unfold I64; omega)
            (fun j hj => by by_cases hj0 : j = 0; (· subst hj0; rw [if_pos (by omega), if_pos rfl]; simp only [List.take_zero, far_nil_r, List.length_take, Array.length_toList]; show ((min (p + 1) s.size : Nat) : Int) = _; omega); (· rw [if_neg (by omega), if_neg hj0])))
          clear e0
          go_wp2_with fail
          go_loopw [8, 9] (fun wa k wr => ∃ q : Nat, q ≤ u.size ∧ k = .int .i64 ((q : Int) + 1) ∧ wa = .int .i64 (far (s.data.toList.take p) (u.data.toList.take q) : Nat) ∧ Hid (OSl RInt 1 3 w.heap.size (fun _ => True) wr (.slice (some ⟨w.heap.size, 0, none⟩) (u.size + 1) (u.size + 1)) (rowL (fun j => if j ≤ q then (far (s.data.toList.take (p + 1)) (u.data.toList.take j) : Int) else (far (s.data.toList.take p) (u.data.toList.take j) : Int)) (u.size + 1))) ∧ Ext w wr) (fun _ k _ => u.size + 1 - (intOf k).toNat)
          case atStart => exact ⟨0, by omega, rfl, by simp only [List.take_zero, far_nil_r, List.length_take, Array.length_toList]; congr 1; try (show (p : Int) = ((min p s.size : Nat) : Int); omega), HP0.out, ext_set HX2.out (Nat.le_refl _) _⟩
          case round =>
            obtain ⟨q, hq, rfl, rfl, HQ, hx3⟩ := hrel
            have HX3 := Lib.hid hx3
            clear hx3
            by_cases hlq : q < u.size
            · obtain ⟨_, hg1, cB, _, fB⟩ := row_at HQ.out (i := q + 1) (by omega)
              obtain ⟨_, _, cA, _, _⟩ := row_at HQ.out (i := q) (by omega)
              rw [if_neg (by omega)] at cB
              rw [if_pos (by omega)] at cA
              have hfs := far_snoc s[p] u[q] (s.data.toList.take p) (u.data.toList.take q)
              rw [show s.data.toList.take p ++ [s[p]] = s.data.toList.take (p + 1) from (List.take_succ_eq_append_getElem (by simpa using hlp)).symm, show u.data.toList.take q ++ [u[q]] = u.data.toList.take (q + 1) from (List.take_succ_eq_append_getElem (by simpa using hlq)).symm] at hfs
              have l1 := far_le (s.data.toList.take p) (u.data.toList.take q)
              have l2 := far_le (s.data.toList.take (p + 1)) (u.data.toList.take q)
              have l3 := far_le (s.data.toList.take p) (u.data.toList.take (q + 1))
              simp only [List.length_take, Array.length_toList] at l1 l2 l3
              have HPUT := Lib.hid (fun (W : World) (hW : Ext wr W) (X : Int) (hX : X = (far (s.data.toList.take (p + 1)) (u.data.toList.take (q + 1)) : Nat)) (iX : I64 X) => row_put (osl_ext gInt HQ.out hW) (i := q + 1) (x := X) (f' := fun j => if j ≤ q + 1 then (far (s.data.toList.take (p + 1)) (u.data.toList.take j) : Int) else (far (s.data.toList.take p) (u.data.toList.take j) : Int)) (by omega) iX
                (fun j hj => by by_cases hj0 : j = q + 1; (· subst hj0; rw [if_pos (by omega), if_pos rfl]; exact hX.symm); (· rw [if_neg hj0]; by_cases h2 : j ≤ q; (· rw [if_pos h2, if_pos (by omega)]); (· rw [if_neg h2, if_neg (by omega)]))))
              generalize far (s.data.toList.take p) (u.data.toList.take q) = vC at *
              generalize far (s.data.toList.take (p + 1)) (u.data.toList.take q) = vA at *
              generalize hvb : far (s.data.toList.take p) (u.data.toList.take (q + 1)) = vB at *
              generalize far (s.data.toList.take (p + 1)) (u.data.toList.take (q + 1)) = vD at *
              have hvB := Lib.hid hvb
              have b1 : vC ≤ 1000 := by omega
              have b2 : vA ≤ 1000 := by omega
              have b3 : vB ≤ 1000 := by omega
              have HFS := Lib.hid hfs
              clear hfs hvb l1 l2 l3
              by_cases g2 : s[p] = u[q]
              · have t2 : ((s[p].toNat : Int) == (u[q].toNat : Int)) = true := by rw [g2]; simp
                have HD : Hid (vD = vC) := Lib.hid (by rw [HFS.out, if_pos g2])
                clear g2
                by_cases g1 : (vA : Int) + 1 < (vB : Int) + 1
                · have t1 : decide ((vA : Int) + 1 < (vB : Int) + 1) = true := decide_eq_true g1
                  have t1b : decide ((vA : Int) < (vB : Int)) = true := decide_eq_true (by omega)
                  have t1c : decide (vA < vB) = true := decide_eq_true (by omega)
                  have t1d : decide (vA + 1 < vB + 1) = true := decide_eq_true (by omega)
                  go_wp2_with fail
                  go_quiet (fail)
                  go_wp2_with fail
                  go_roundw
                  case rel => first | exact ⟨q + 1, by omega, by go_num, by rw [← hvB.out], HPUT.out _ (ext_drewN (ext_refl _) _) _ (by have h9 := HD.out; omega) (by unfold I64; omega), ext_set (ext_drewN HX3.out _) (Nat.le_refl _) _⟩ | ((repeat apply Exists.intro); refine ⟨⟨q + 1, by omega, ?_, ?_, ?_, ?_⟩, rfl⟩; (· go_num); (· rw [← hvB.out]); (· exact HPUT.out _ (ext_drewN (ext_refl _) _) _ (by have h9 := HD.out; omega) (by unfold I64; omega)); (· exact ext_set (ext_drewN HX3.out _) (Nat.le_refl _) _))
                  case measure => simp [intOf]; omega
                · have t1 : decide ((vA : Int) + 1 < (vB : Int) + 1) = false := decide_eq_false g1
                  have t1b : decide ((vA : Int) < (vB : Int)) = false := decide_eq_false (by omega)
                  have t1c : decide (vA < vB) = false := decide_eq_false (by omega)
                  have t1d : decide (vA + 1 < vB + 1) = false := decide_eq_false (by omega)
                  go_wp2_with fail
                  go_quiet (fail)
                  go_wp2_with fail
                  go_roundw
                  case rel => first | exact ⟨q + 1, by omega, by go_num, by rw [← hvB.out], HPUT.out _ (ext_drewN (ext_refl _) _) _ (by have h9 := HD.out; omega) (by unfold I64; omega), ext_set (ext_drewN HX3.out _) (Nat.le_refl _) _⟩ | ((repeat apply Exists.intro); refine ⟨⟨q + 1, by omega, ?_, ?_, ?_, ?_⟩, rfl⟩; (· go_num); (· rw [← hvB.out]); (· exact HPUT.out _ (ext_drewN (ext_refl _) _) _ (by have h9 := HD.out; omega) (by unfold I64; omega)); (· exact ext_set (ext_drewN HX3.out _) (Nat.le_refl _) _))
                  case measure => simp [intOf]; omega
              · have t2 : ((s[p].toNat : Int) == (u[q].toNat : Int)) = false := by
                  rw [beq_eq_false_iff_ne]; intro h; apply g2; apply UInt8.toNat_inj.1; omega
                have HD : Hid (vD = min vA vB + 1) := Lib.hid (by rw [HFS.out, if_neg g2])
                clear g2
                by_cases g1 : (vA : Int) + 1 < (vB : Int) + 1
                · have t1 : decide ((vA : Int) + 1 < (vB : Int) + 1) = true := decide_eq_true g1
                  have t1b : decide ((vA : Int) < (vB : Int)) = true := decide_eq_true (by omega)
                  have t1c : decide (vA < vB) = true := decide_eq_true (by omega)
                  have t1d : decide (vA + 1 < vB + 1) = true := decide_eq_true (by omega)
                  go_wp2_with fail
                  go_quiet (fail)
                  go_wp2_with fail
                  go_roundw
                  case rel => first | exact ⟨q + 1, by omega, by go_num, by rw [← hvB.out], HPUT.out _ (ext_drewN (ext_refl _) _) _ (by have h9 := HD.out; omega) (by unfold I64; omega), ext_set (ext_drewN HX3.out _) (Nat.le_refl _) _⟩ | ((repeat apply Exists.intro); refine ⟨⟨q + 1, by omega, ?_, ?_, ?_, ?_⟩, rfl⟩; (· go_num); (· rw [← hvB.out]); (· exact HPUT.out _ (ext_drewN (ext_refl _) _) _ (by have h9 := HD.out; omega) (by unfold I64; omega)); (· exact ext_set (ext_drewN HX3.out _) (Nat.le_refl _) _))
                  case measure => simp [intOf]; omega
                · have t1 : decide ((vA : Int) + 1 < (vB : Int) + 1) = false := decide_eq_false g1
                  have t1b : decide ((vA : Int) < (vB : Int)) = false := decide_eq_false (by omega)
                  have t1c : decide (vA < vB) = false := decide_eq_false (by omega)
                  have t1d : decide (vA + 1 < vB + 1) = false := decide_eq_false (by omega)
                  go_wp2_with fail
                  go_quiet (fail)
                  go_wp2_with fail
                  go_roundw
                  case rel => first | exact ⟨q + 1, by omega, by go_num, by rw [← hvB.out], HPUT.out _ (ext_drewN (ext_refl _) _) _ (by have h9 := HD.out; omega) (by unfold I64; omega), ext_set (ext_drewN HX3.out _) (Nat.le_refl _) _⟩ | ((repeat apply Exists.intro); refine ⟨⟨q + 1, by omega, ?_, ?_, ?_, ?_⟩, rfl⟩; (· go_num); (· rw [← hvB.out]); (· exact HPUT.out _ (ext_drewN (ext_refl _) _) _ (by have h9 := HD.out; omega) (by unfold I64; omega)); (· exact ext_set (ext_drewN HX3.out _) (Nat.le_refl _) _))
                  case measure => simp [intOf]; omega
            · have H4 := Lib.hid ((row_same (m := u.size + 1) (f := fun j => if j ≤ q then (far (s.data.toList.take (p + 1)) (u.data.toList.take j) : Int) else (far (s.data.toList.take p) (u.data.toList.take j) : Int)) (f' := fun j => (far (s.data.toList.take (p + 1)) (u.data.toList.take j) : Int)) (fun j hj => by rw [if_pos (by omega)])) ▸ HQ.out)
              clear HQ
              go_wp2_with fail
              go_roundw
              case rel => exact ⟨p + 1, by omega, by go_num, H4.out, HX3.out⟩
              case measure => simp [intOf]; omega
        · obtain ⟨_, hg0, c0, _, f0⟩ := row_at HP.out (i := u.size) (by omega)
          rw [List.take_of_length_le (by simpa using Nat.le_of_not_lt hlp), List.take_of_length_le (by simp)] at c0
          go_wp2_with fail
          go_ret
          exact ⟨rfl, HX2.out⟩
end Go.Proofs.Ythkhkbjkbpgaoaa
