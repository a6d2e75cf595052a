/- Atoms of one's own. -/
import Derived.Test.YtghfmgndddjofaaA0
import Derived.Test.YtghfmgndddjofaaW7
import Derived.Test.YtghfmgndddjofaaW10
import Derived.Test.YtghfmgndddjofaaLate2
import Derived.Deep.RegionHeld3
set_option linter.unusedVariables false
set_option linter.unusedSimpArgs false
namespace Go.Proofs.Ytghfmgndddjofaa
open Go Go.RowKit Go.BigFrame Cp

theorem c_info : (Try.prog.info? 77).map (fun i => (i.zero, i.size, i.bytes)) = some (some (.agg #[.slice none 0 0, .int .i64 0, .int .u8 0]), 3, 40) := by kernel_rfl
theorem c_one {F : Nat → Prop} {W : World} {r : Nat} {v : Value} {p : List Stp} {c : Int} {s : UInt8} (h : RSl RStp 2 F W v p) (i : I64 c) (z0 : W.cell? ⟨r, 0, none⟩ = some v) (z1 : W.cell? ⟨r, 1, none⟩ = some (.int .i64 c)) (z2 : W.cell? ⟨r, 2, none⟩ = some (.int .u8 s.toNat))
    (hF : F r) (hr : r < W.heap.size) : RSl RAt 3 F W (.slice (some ⟨r, 0, none⟩) 1 1) [((p, c), s)] :=
  rsl_of_range (rangeAt3 z0 z1 z2) (chunks_one (x := ((p, c), s)) rfl ⟨_, rfl, h, i⟩) hF hr (Nat.le_refl _) (by unfold maxLen; omega)
theorem c_path {F : Nat → Prop} {w : World} {v : Value} {c : Int} {m : Mk} (h : RMk F w [v, .int .i64 c] m) : RSl RStp 2 F w v m.1 := by
  obtain ⟨v', e, h1, _⟩ := h
  injection e with e1 e2
  subst e1; exact h1
theorem c_len {a : Nat} (h : a ≤ 1000) : a + 1 ≤ maxLen := Nat.le_trans (by omega : a + 1 ≤ 1001) (by unfold maxLen; decide)
theorem c_byt {a : Nat} (h : a ≤ 1000) : (a + 1) * 40 ≤ 140737488355328 := by omega
/-- atoms in a row of one's own, all that they hold is new -/
def IsOwnA (l : List At) (w : World) (e : Ending) (w' : World) : Prop := ∃ v, e = .returned v ∧ OSl RAt 3 77 w.heap.size (fun j => w.heap.size ≤ j) w' v l ∧ Ext w w'
theorem take_snoc {α : Type} {l : List α} {k : Nat} {a : α} (h : l[k]? = some a) : l.take (k + 1) = l.take k ++ [a] := by
  obtain ⟨h1, h2⟩ := List.getElem?_eq_some_iff.1 h
  rw [List.take_succ_eq_append_getElem h1, h2]
set_option maxRecDepth 100000 in
set_option maxHeartbeats 4000000 in
theorem ownAtoms_any {F : Nat → Prop} {w : World} {v : Value} {l : List At} (h : RSl RAt 3 F w v l) (hl : l.length ≤ 1000) (hm : ∀ a ∈ l, a.1.1.length ≤ 8000000000000) :
    Calls Try.prog 88 #[v] w (IsOwnA l w) := by
  have HM := Lib.hid hm
  have HL := Lib.hid (fun (W : World) (hx : Ext w W) => h.ext gAt hx)
  obtain ⟨a0, n0, c0, rfl⟩ := h.slice
  obtain ⟨rfl, _, _⟩ := h.len
  obtain ⟨i0, hi0, hz0, hz1', hz2⟩ := info_parts c_info
  have HJ := Lib.hid hi0
  have HZ0 := Lib.hid hz0
  have HZ1 := Lib.hid hz1'
  have HZ2 := Lib.hid hz2
  clear h hm hi0 hz0 hz1' hz2
  go_enter Try.func88, Try.ntmps88
  go_wp2
  go_loopw [3, 8] (fun ov iv wr => ∃ k : Nat, k ≤ l.length ∧ iv = .int .i64 k ∧ Hid (OSl RAt 3 77 w.heap.size (fun j => w.heap.size ≤ j) wr ov (l.take k)) ∧ Ext w wr) (fun _ iv _ => l.length - (intOf iv).toNat)
  case atStart => exact ⟨0, Nat.zero_le _, rfl, Lib.hid osl_nil, ext_refl _⟩
  case round =>
    obtain ⟨k, hk, rfl, HO, hx⟩ := hrel
    have hzr := hx.size
    have HX := Lib.hid hx
    clear hx
    obtain ⟨a5, n5, c5, rfl⟩ := osl_slice HO.out
    by_cases hlt : k < l.length
    · obtain ⟨b, o, p, d, s, ap, cp, rfl, hb, ek, ick, hpp, y0, y1, y2⟩ := atm_at (HL.out wr HX.out) hlt
      have HOW := Lib.hid (fun (W : World) (hx : Ext wr W) => own_any (rmk_of' (hpp.ext gStp hx) ick) (HM.out _ (List.mem_of_getElem? ek)))
      have HIC := Lib.hid ick
      have HEK := Lib.hid (take_snoc ek)
      have HOL := Lib.hid (osl_lt HO.out)
      have hfl : (l.take k).length ≤ 1000 := by rw [List.length_take]; omega
      have hn1 : ¬ b = wr.heap.size := by omega
      generalize l.take k = fl at *
      clear ek ick hpp
      go_wp2_with fail
      refine wp_name (fun W1 eW1 => ?_)
      have e0 : W1.cell? ⟨wr.heap.size, 0, none⟩ = some (.slice ap p.length cp) := by rw [eW1]; go_simp
      have e1 : W1.cell? ⟨wr.heap.size, 1, none⟩ = some (.int .i64 d) := by rw [eW1]; go_simp
      have e2 : W1.cell? ⟨wr.heap.size, 2, none⟩ = some (.int .u8 s.toNat) := by rw [eW1]; go_simp
      have zW1_0 : wr.heap.size < W1.heap.size := by rw [eW1]; first | assumption | omega | (simp <;> omega)
      have hw1 : Ext wr W1 := by rw [eW1]; exact (by repeat (first | (with_reducible exact ext_refl _) | (with_reducible assumption) | (with_reducible refine ext_drew ?_) | (with_reducible refine ext_drewN ?_ _) | (with_reducible refine ext_alloc ?_ _) | (with_reducible refine ext_set ?_ (by first | omega | (simp <;> omega)) _) | (with_reducible refine ext_trans ?_ (by with_reducible assumption))))
      clear eW1
      have hzw := hw1.size
      go_region_held3 (fun W => W.cell? ⟨wr.heap.size, 0, none⟩ = some (.slice ap p.length cp) ∧ W.cell? ⟨wr.heap.size, 1, none⟩ = some (.int .i64 d) ∧ W.cell? ⟨wr.heap.size, 2, none⟩ = some (.int .u8 s.toNat))
        (first | go_keep | (refine ⟨?_, ?_, ?_⟩ <;> assumption) | (refine ⟨?_, ?_, ?_⟩ <;> (rw [hx9.cells _ _ (by first | omega | (simp <;> omega))]; first | assumption | go_simp)))
        (first
          | (go_at_call 127; go_must ((with_reducible refine (HOW.out _ (by repeat (first | (with_reducible exact ext_refl _) | (with_reducible assumption) | (with_reducible refine ext_drew ?_) | (with_reducible refine ext_drewN ?_ _) | (with_reducible refine ext_alloc ?_ _) | (with_reducible refine ext_set ?_ (by first | omega | (simp <;> omega)) _) | (with_reducible refine ext_trans ?_ (by with_reducible assumption))))).mono ?_); rintro e w2 ⟨cs2, rfl, hm2, hx2⟩; have HM2 := Lib.hid (omk_mk hm2); obtain ⟨v2, rfl, hv2, _⟩ := hm2; obtain ⟨a2, n2, c2, rfl⟩ := osl_slice hv2; clear hv2; have hz2 := hx2.size; (try simp at hz2); have hb2 : wr.heap.size < w2.heap.size := (by omega); have q0 := (hx2.cells (wr.heap.size) (0) (by first | omega | (simp <;> omega))).trans (show _ = some (.slice ap p.length cp) by first | assumption | go_simp); have q1 := (hx2.cells (wr.heap.size) (1) (by first | omega | (simp <;> omega))).trans (show _ = some (.int .i64 d) by first | assumption | go_simp); have q2 := (hx2.cells (wr.heap.size) (2) (by first | omega | (simp <;> omega))).trans (show _ = some (.int .u8 s.toNat) by first | assumption | go_simp)))
          | ((refine step_appAll gAt rfl (.tmp 12) (.tmp 19) 59 rfl w.heap.size 77 i0 _ 3 40 Try.underlying59 HJ.out HZ0.out HZ1.out HZ2.out rfl (by omega) (F := fun j => w.heap.size ≤ j) (G := fun j => wr.heap.size ≤ j) (.slice a5 n5 c5) fl rfl (osl_ext gAt HO.out (by repeat (first | (with_reducible exact ext_refl _) | (with_reducible assumption) | (with_reducible refine ext_drew ?_) | (with_reducible refine ext_drewN ?_ _) | (with_reducible refine ext_alloc ?_ _) | (with_reducible refine ext_set ?_ (by first | omega | (simp <;> omega)) _) | (with_reducible refine ext_trans ?_ (by with_reducible assumption))))) (.slice (some ⟨w2.heap.size, 0, none⟩) 1 1) [((p, d), s)] rfl (c_one (RSl.more gStp (fun j hj _ => (show wr.heap.size ≤ j by first | omega | (simp at hj; omega))) ((c_path HM2.out).ext gStp (by repeat (first | (with_reducible exact ext_refl _) | (with_reducible assumption) | (with_reducible refine ext_drew ?_) | (with_reducible refine ext_drewN ?_ _) | (with_reducible refine ext_alloc ?_ _) | (with_reducible refine ext_set ?_ (by first | omega | (simp <;> omega)) _) | (with_reducible refine ext_trans ?_ (by with_reducible assumption)))))) HIC.out (by first | assumption | go_simp) (by first | assumption | (go_simp <;> rfl)) (by first | assumption | go_simp) (by first | omega | (simp <;> omega)) (by first | omega | (simp <;> omega))) one_at (fun j hj _ => ⟨(show w.heap.size ≤ j by omega), fun e => by have := HOL.out j e.symm; omega⟩) (c_len hfl) (c_byt hfl) (by first | omega | (simp <;> omega)) ?_); intro v9 w9 hown9 hg9 hat9; have hx9 : Ext w w9 := ext_grow (ext_trans HX.out (by repeat (first | (with_reducible exact ext_refl _) | (with_reducible assumption) | (with_reducible refine ext_drew ?_) | (with_reducible refine ext_drewN ?_ _) | (with_reducible refine ext_alloc ?_ _) | (with_reducible refine ext_set ?_ (by first | omega | (simp <;> omega)) _) | (with_reducible refine ext_trans ?_ (by with_reducible assumption))))) hg9 (fun j hj => (HOL.out j hj).1); have r0 := hg9.cell (a := ⟨wr.heap.size, 0, none⟩) (v := .slice ap p.length cp) (by first | assumption | go_simp) (fun e => absurd (HOL.out _ e.symm).2 (Nat.lt_irrefl _)); have r1 := hg9.cell (a := ⟨wr.heap.size, 1, none⟩) (v := .int .i64 d) (by first | assumption | go_simp) (fun e => absurd (HOL.out _ e.symm).2 (Nat.lt_irrefl _)); have r2 := hg9.cell (a := ⟨wr.heap.size, 2, none⟩) (v := .int .u8 s.toNat) (by first | assumption | go_simp) (fun e => absurd (HOL.out _ e.symm).2 (Nat.lt_irrefl _))))
      all_goals
        have HN := Lib.hid (show OSl RAt 3 77 w.heap.size (fun j => w.heap.size ≤ j) w9 v9 (l.take (k + 1)) by rw [HEK.out]; exact hown9)
        clear hown9 hg9 hat9
        go_wp2_with fail
        go_roundw
        case rel => exact ⟨k + 1, by omega, by go_num, HN, hx9⟩
        case measure => simp [intOf]; omega
    · have hkl : k = l.length := by omega
      subst hkl
      have HF := Lib.hid (show OSl RAt 3 77 w.heap.size (fun j => w.heap.size ≤ j) wr (.slice a5 n5 c5) l by have := HO.out; rwa [List.take_of_length_le (Nat.le_refl _)] at this)
      go_wp2
      go_ret
      exact ⟨_, rfl, HF.out, HX.out⟩
end Go.Proofs.Ytghfmgndddjofaa
