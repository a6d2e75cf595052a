/- The atoms of a run, by the document. -/
import Derived.Test.YthkhkbjkbpgaoaaB2
import Derived.Test.YthkhkbjkbpgaoaaHI
import Derived.Test.YthkhkbjkbpgaoaaRow
set_option linter.unusedVariables false
set_option linter.unusedSimpArgs false
namespace Go.Proofs.Ythkhkbjkbpgaoaa
open Go Go.RowKit Go.BigFrame Cp

theorem info_atom : (Try.prog.info? 52).map (fun i => (i.zero, i.size, i.bytes)) = some (some (.agg #[.slice none 0 0, .int .i64 0, .int .u8 0]), 3, 40) := by kernel_rfl
theorem checkR_parts {r : Rn} (h : checkR r = 0) : checkM r.1 = 0 ∧ r.2 ≠ [] ∧ r.2.length ≤ 60 ∧ signsB r.2 = true ∧ (nextM r.1 (r.2.length - 1)).2 = 0 := by
  unfold checkR at h
  by_cases h1 : checkM r.1 ≠ 0
  · rw [if_pos h1] at h; exact absurd h h1
  rw [if_neg h1] at h
  by_cases h2 : r.2 = []
  · rw [if_pos h2] at h; omega
  rw [if_neg h2] at h
  by_cases h3 : 60 < r.2.length
  · rw [if_pos h3] at h; omega
  rw [if_neg h3] at h
  by_cases h4 : signsB r.2 = false
  · rw [if_pos h4] at h; omega
  rw [if_neg h4] at h
  exact ⟨by omega, h2, by omega, by simpa using h4, h⟩
theorem atm_one {F : Nat → Prop} {W : World} {r : Nat} {v : Value} {p : List Stp} {c : Int} {s : UInt8} (h : RSl RStp 2 F W v p) (i : I64 c) (z0 : W.cell? ⟨r, 0, none⟩ = some v) (z1 : W.cell? ⟨r, 1, none⟩ = some (.int .i64 c)) (z2 : W.cell? ⟨r, 2, none⟩ = some (.int .u8 s.toNat))
    (hF : F r) (hr : r < W.heap.size) : RSl RAt 3 F W (.slice (some ⟨r, 0, none⟩) 1 1) [((p, c), s)] :=
  rsl_of_range (rangeAt3 z0 z1 z2) (chunks_one (x := ((p, c), s)) rfl ⟨_, rfl, h, i⟩) hF hr (Nat.le_refl _) (by unfold maxLen; omega)
theorem rmk_path {F : Nat → Prop} {w : World} {v : Value} {c : Int} {m : Mk} (h : RMk F w [v, .int .i64 c] m) : RSl RStp 2 F w v m.1 := by
  obtain ⟨v', e, h1, _⟩ := h
  injection e with e1 e2
  subst e1; exact h1
theorem range_map {α : Type} (f : Nat → α) (k : Nat) : (List.range (k + 1)).map f = (List.range k).map f ++ [f k] := by rw [List.range_succ, List.map_append]; rfl
theorem byte_getD {s : ByteArray} {k : Nat} (h : k < s.size) : s.data.toList.getD k 0 = s[k] := by
  rw [List.getD_eq_getElem?_getD, List.getElem?_eq_getElem (by simpa using h)]
  rfl
theorem range_len {α : Type} (f : Nat → α) (k : Nat) : ((List.range k).map f).length = k := by simp
set_option maxRecDepth 100000 in
set_option maxHeartbeats 4000000 in
theorem atomsOf_any {F : Nat → Prop} {w : World} {cs : List Value} {r : Rn} (h : RRn F w cs r) (hr : checkR r = 0) :
    Calls Try.prog 43 #[.agg cs.toArray] w (IsAtoms (atomsR r) w) := by
  obtain ⟨hc1, hc2, hc3, _, _⟩ := checkR_parts hr
  obtain ⟨v, u, rfl, hl, hi, hu⟩ := h
  obtain ⟨⟨l, c⟩, t⟩ := r
  simp only at hl hi hu hc1 hc2 hc3
  obtain ⟨s, rfl, rfl, hs⟩ := tx_bytes hu
  have hs60 : s.size ≤ 60 := by simpa using hc3
  have HAF := Lib.hid (fun (k : Nat) (hk : k < s.size) (W : World) (hx : Ext w W) => afterOf_any (k := (k : Int)) (rmk_of' (hl.ext gStp hx) hi) (check_len hc1) (check_ne hc1) (check_digit hc1) (check_clock hc1) ⟨by omega, by omega⟩)
  have HIC := Lib.hid (check_clock hc1)
  obtain ⟨a1, n1, c1, rfl⟩ := hl.slice
  obtain ⟨i0, hi0, hz0, hz1, hz2⟩ := info_parts info_atom
  have HJ := Lib.hid hi0
  have HZ0 := Lib.hid hz0
  have HZ1 := Lib.hid hz1
  have HZ2 := Lib.hid hz2
  obtain ⟨f, hf⟩ : ∃ f : Nat → At, f = fun (i : Nat) => (afterM (l, c) (i : Int), s.data.toList.getD i 0) := ⟨_, rfl⟩
  have hat : atomsR ((l, c), s.data.toList) = (List.range s.size).map f := by
    unfold atomsR; rw [hf]
    have : s.data.toList.length = s.size := by simp
    simp only [this]
  rw [hat]
  have HF := Lib.hid (fun (k : Nat) (hk : k < s.size) => (show f k = (afterM (l, c) (k : Int), s[k]) by rw [hf]; simp only [byte_getD hk]))
  clear hi0 hz0 hz1 hz2 hl hi hu hr hc1 hc2 hc3 hat hf
  go_enter Try.func43, Try.ntmps43
  go_wp2
  refine wp_name (fun wb ewb => ?_)
  have b0 : wb.cell? ⟨w.heap.size, 0, none⟩ = some (.slice a1 n1 c1) := by rw [ewb]; go_simp
  have b1 : wb.cell? ⟨w.heap.size, 1, none⟩ = some (.int .i64 c) := by rw [ewb]; go_simp
  have b2 : wb.cell? ⟨w.heap.size, 2, none⟩ = some (.string s) := by rw [ewb]; go_simp
  have hbb : w.heap.size < wb.heap.size := by rw [ewb]; simp
  have hwb : Ext w wb := by rw [ewb]; exact (by repeat (first | (with_reducible exact ext_refl _) | (with_reducible assumption) | (with_reducible refine ext_drew ?_) | (with_reducible refine ext_drewN ?_ _) | (with_reducible refine ext_alloc ?_ _) | (with_reducible refine ext_set ?_ (by first | omega | (simp <;> omega)) _) | (with_reducible refine ext_trans ?_ (by with_reducible assumption))))
  clear ewb
  have HWB := Lib.hid hwb
  go_loopw [3, 4] (fun ov iv wr => ∃ k : Nat, k ≤ s.size ∧ iv = .int .i64 k ∧ Hid (OSl RAt 3 52 wb.heap.size (fun j => wb.heap.size ≤ j) wr ov ((List.range k).map f)) ∧ Ext wb wr) (fun _ iv _ => s.size - (intOf iv).toNat)
  case atStart => exact ⟨0, Nat.zero_le _, rfl, Lib.hid osl_nil, ext_refl _⟩
  case round =>
    obtain ⟨k, hk, rfl, HO, hx⟩ := hrel
    have z0 := (hx.cells w.heap.size 0 hbb).trans b0
    have z1 := (hx.cells w.heap.size 1 hbb).trans b1
    have z2 := (hx.cells w.heap.size 2 hbb).trans b2
    have hzr := hx.size
    have hbr : w.heap.size < wr.heap.size := by omega
    have HX := Lib.hid hx
    have HXW := Lib.hid (ext_trans HWB.out hx)
    clear hx
    obtain ⟨a5, n5, c5, rfl⟩ := osl_slice HO.out
    obtain rfl : n5 = k := by have := (osl_len HO.out).1; rwa [range_len] at this
    by_cases hlt : n5 < s.size
    · have HAK := Lib.hid (HAF.out n5 hlt)
      have HFK := Lib.hid (HF.out n5 hlt)
      have HOL := Lib.hid (osl_lt HO.out)
      go_wp2_with fail
      go_region_held3 (fun W => W.cell? ⟨w.heap.size, 0, none⟩ = some (.slice a1 n1 c1) ∧ W.cell? ⟨w.heap.size, 1, none⟩ = some (.int .i64 c) ∧ W.cell? ⟨w.heap.size, 2, none⟩ = some (.string s))
        (first | go_keep | (refine ⟨?_, ?_, ?_⟩ <;> (rw [hx9.cells _ _ (by first | omega | (simp <;> omega))]; first | assumption | go_simp)) | (refine ⟨?_, ?_, ?_⟩ <;> (rw [hx2.cells _ _ (by first | omega | (simp <;> omega))]; first | assumption | go_simp)))
        (first
          | (go_at_call 65; go_must ((with_reducible refine (HAK.out _ (ext_trans HXW.out (by repeat (first | (with_reducible exact ext_refl _) | (with_reducible assumption) | (with_reducible refine ext_drew ?_) | (with_reducible refine ext_drewN ?_ _) | (with_reducible refine ext_alloc ?_ _) | (with_reducible refine ext_set ?_ (by first | omega | (simp <;> omega)) _) | (with_reducible refine ext_trans ?_ (by with_reducible assumption)))))).mono ?_); rintro e w2 ⟨cs2, rfl, hm2, hx2⟩; have HM2 := Lib.hid (omk_mk hm2); obtain ⟨v2, rfl, hv2, hi2⟩ := hm2; obtain ⟨a3, n3, c3, rfl⟩ := osl_slice hv2; have HI2 := Lib.hid hi2; have hz2 := hx2.size; (try simp at hz2); have hb2 : w.heap.size < w2.heap.size := (by omega); clear hv2 hi2))
          | ((refine step_appAll gAt rfl (.tmp 12) (.tmp 22) 37 rfl wb.heap.size 52 i0 _ 3 40 Try.underlying37 HJ.out HZ0.out HZ1.out HZ2.out rfl (by omega) (F := fun j => wb.heap.size ≤ j) (G := fun j => wr.heap.size ≤ j) (.slice a5 n5 c5) ((List.range n5).map f) rfl (osl_ext gAt HO.out (by repeat (first | (with_reducible exact ext_refl _) | (with_reducible assumption) | (with_reducible refine ext_drew ?_) | (with_reducible refine ext_drewN ?_ _) | (with_reducible refine ext_alloc ?_ _) | (with_reducible refine ext_set ?_ (by first | omega | (simp <;> omega)) _) | (with_reducible refine ext_trans ?_ (by with_reducible assumption))))) (.slice (some ⟨w2.heap.size, 0, none⟩) 1 1) [f n5] rfl (by rw [HFK.out]; exact atm_one (RSl.more gStp (fun j hj _ => (show wr.heap.size ≤ j by first | omega | (simp at hj; omega))) ((rmk_path HM2.out).ext gStp (by repeat (first | (with_reducible exact ext_refl _) | (with_reducible assumption) | (with_reducible refine ext_drew ?_) | (with_reducible refine ext_drewN ?_ _) | (with_reducible refine ext_alloc ?_ _) | (with_reducible refine ext_set ?_ (by first | omega | (simp <;> omega)) _) | (with_reducible refine ext_trans ?_ (by with_reducible assumption)))))) HI2.out (by first | assumption | go_simp) (by first | assumption | (go_simp <;> rfl)) (by first | assumption | go_simp) (by first | omega | (simp <;> omega)) (by first | omega | (simp <;> omega))) one_at (fun j hj _ => ⟨(show wb.heap.size ≤ j by omega), fun e => by have := HOL.out j e.symm; omega⟩) (by simp only [range_len, maxLen, List.length_cons, List.length_nil]; omega) (by simp only [range_len, List.length_cons, List.length_nil]; omega) (by first | omega | (simp <;> omega)) ?_); intro v9 w9 hown9 hg9 hat9; have hx9 : Ext wb w9 := ext_grow (ext_trans HX.out (by repeat (first | (with_reducible exact ext_refl _) | (with_reducible assumption) | (with_reducible refine ext_drew ?_) | (with_reducible refine ext_drewN ?_ _) | (with_reducible refine ext_alloc ?_ _) | (with_reducible refine ext_set ?_ (by first | omega | (simp <;> omega)) _) | (with_reducible refine ext_trans ?_ (by with_reducible assumption))))) hg9 (fun j hj => (HOL.out j hj).1)))
      all_goals
        have HN := Lib.hid (show OSl RAt 3 52 wb.heap.size (fun j => wb.heap.size ≤ j) w9 v9 ((List.range (n5 + 1)).map f) by rw [range_map]; exact hown9)
        clear hown9 hg9 hat9
        go_wp2_with fail
        go_roundw
        case rel => exact ⟨n5 + 1, by omega, by go_num, HN, hx9⟩
        case measure => simp [intOf]; omega
    · have hks : n5 = s.size := by omega
      subst hks
      have HFI := Lib.hid (osl_rsl gAt HO.out (G := fun j => w.heap.size ≤ j) (fun j hj _ => (show w.heap.size ≤ j by omega)) (fun j hj => (show w.heap.size ≤ j by omega)))
      go_wp2
      go_ret
      exact ⟨_, rfl, HFI.out, HXW.out⟩
end Go.Proofs.Ythkhkbjkbpgaoaa
