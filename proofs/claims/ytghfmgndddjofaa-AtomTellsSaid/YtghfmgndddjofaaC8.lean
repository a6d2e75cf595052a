/- Atoms that are put, and atoms without what is gone, by the document. -/
import Derived.Test.YtghfmgndddjofaaC6
import Derived.Test.YtghfmgndddjofaaC7
set_option linter.unusedVariables false
set_option linter.unusedSimpArgs false
namespace Go.Proofs.Ytghfmgndddjofaa
open Go Go.RowKit Go.BigFrame Cp

set_option maxRecDepth 100000 in
set_option maxHeartbeats 4000000 in
theorem putOf_any {F G : Nat → Prop} {w : World} {v u : Value} {l m : List At} (h : RSl RAt 3 F w v l) (k0 : RSl RAt 3 G w u m) (hl : RightA l) (hm : RightA m) (hl3 : l.length ≤ 300) (hm3 : m.length ≤ 300) :
    Calls Try.prog 43 #[v, u] w (IsAtAny (mergeA l m) w) := by
  have HL := Lib.hid h
  have HMM := Lib.hid (fun (W : World) (hx : Ext w W) => k0.ext gAt hx)
  have HRL := Lib.hid hl
  have HRM := Lib.hid hm
  obtain ⟨a0, n0, c0, rfl⟩ := h.slice
  obtain ⟨a1, n1, c1, rfl⟩ := k0.slice
  obtain rfl : n1 = m.length := k0.len.1
  clear h k0 hl hm
  go_enter Try.func43, Try.ntmps43
  go_wp2
  go_loopw [0, 5] (fun lv iv wr => ∃ k : Nat, k ≤ m.length ∧ iv = .int .i64 k ∧ Hid (RSl RAt 3 (fun _ => True) wr lv (mergeA l (m.take k))) ∧ Ext w wr) (fun _ iv _ => m.length - (intOf iv).toNat)
  case atStart => exact ⟨0, Nat.zero_le _, rfl, Lib.hid (RSl.more gAt (fun _ _ _ => trivial) HL.out), ext_refl _⟩
  case round =>
    obtain ⟨k, hk, rfl, HO, hx⟩ := hrel
    have HX := Lib.hid hx
    clear hx
    obtain ⟨a5, n5, c5, rfl⟩ := HO.out.slice
    by_cases hlt : k < m.length
    · obtain ⟨b, o, p, d, s, ap, cp, rfl, hb, ek, ick, hpp, y0, y1, y2⟩ := atm_at (HMM.out wr HX.out) hlt
      have HEK := Lib.hid (mergeA_take (l := l) ek)
      have HRQ := Lib.hid (mergeA_right (m := m.take k) HRL.out (fun a ha => HRM.out.2 a (List.mem_of_mem_take ha)))
      have hql : (mergeA l (m.take k)).length ≤ 900 := by have h1 := mergeA_len (m.take k) l; rw [List.length_take] at h1; omega
      have HPU := Lib.hid (fun (W : World) (hx : Ext wr W) => docPut_any (HO.out.ext gAt hx) (rat_of (s := s) (hpp.ext gStp hx) ick) HRQ.out.1 hql)
      clear ek ick hpp hql
      go_wp2_with (go_at_call 92; go_must ((with_reducible refine (HPU.out _ (by repeat (first | (with_reducible exact ext_refl _) | (with_reducible assumption) | (with_reducible refine ext_drew ?_) | (with_reducible refine ext_drewN ?_ _) | (with_reducible refine ext_alloc ?_ _) | (with_reducible refine ext_set ?_ (by first | omega | (simp <;> omega)) _) | (with_reducible refine ext_trans ?_ (by with_reducible assumption))))).mono ?_); rintro e w1 ⟨v1, rfl, hv1, hx1⟩; obtain ⟨a6, n6, c6, rfl⟩ := hv1.slice))
      go_roundw
      case rel => exact ⟨k + 1, by omega, by go_num, Lib.hid (by rw [HEK.out]; exact hv1), ext_trans HX.out hx1⟩
      case measure => simp [intOf]; omega
    · have hkl : k = m.length := by omega
      subst hkl
      have HF := Lib.hid (show RSl RAt 3 (fun _ => True) wr (.slice a5 n5 c5) (mergeA l m) by have := HO.out; rwa [List.take_of_length_le (Nat.le_refl _)] at this)
      go_wp2
      go_ret
      exact ⟨_, rfl, HF.out, HX.out⟩
theorem takeA_len' (l : List At) (ms : List Mk) (k : Nat) (h : l.length ≤ 300) : (takeA (l.take k) ms).length ≤ 1000 := by
  have h1 : (takeA (l.take k) ms).length ≤ (l.take k).length := List.length_filter_le _ _
  rw [List.length_take] at h1; omega
theorem takeA_yes {l : List At} {ms : List Mk} {k : Nat} {a : At} (h : l[k]? = some a) (g : hasG ms a.1 = true) : takeA (l.take (k + 1)) ms = takeA (l.take k) ms := by rw [takeA_step h, g]; simp
theorem takeA_no {l : List At} {ms : List Mk} {k : Nat} {a : At} (h : l[k]? = some a) (g : hasG ms a.1 = false) : takeA (l.take (k + 1)) ms = takeA (l.take k) ms ++ [a] := by rw [takeA_step h, g]; simp
set_option maxRecDepth 100000 in
set_option maxHeartbeats 4000000 in
theorem takeOf_any {F G : Nat → Prop} {w : World} {v u : Value} {l : List At} {ms : List Mk} (h : RSl RAt 3 F w v l) (k0 : RSl RMk 2 G w u ms) (hl3 : l.length ≤ 300) :
    Calls Try.prog 42 #[v, u] w (IsAtAny (takeA l ms) w) := by
  have h0 : RSl RAt 3 (fun j => j < w.heap.size) w v l := RSl.more gAt (fun _ _ hk => hk) h
  have HL := Lib.hid (fun (W : World) (hx : Ext w W) => h0.ext gAt hx)
  have HMS := Lib.hid (fun (W : World) (hx : Ext w W) => k0.ext gMk hx)
  obtain ⟨a0, n0, c0, rfl⟩ := h.slice
  obtain rfl : n0 = l.length := h.len.1
  obtain ⟨a1, n1, c1, rfl⟩ := k0.slice
  obtain ⟨i0, hi0, hz0, hz1', hz2⟩ := info_parts c_info
  have HJ := Lib.hid hi0
  have HZ0 := Lib.hid hz0
  have HZ1 := Lib.hid hz1'
  have HZ2 := Lib.hid hz2
  clear h h0 k0 hi0 hz0 hz1' hz2
  go_enter Try.func42, Try.ntmps42
  go_wp2
  go_loopw [5, 6] (fun ov iv wr => ∃ k : Nat, k ≤ l.length ∧ iv = .int .i64 k ∧ Hid (OSl RAt 3 77 w.heap.size (fun _ => True) wr ov (takeA (l.take k) ms)) ∧ Ext w wr) (fun _ iv _ => l.length - (intOf iv).toNat)
  case atStart => exact ⟨0, Nat.zero_le _, rfl, Lib.hid osl_nil, ext_refl _⟩
  case round =>
    obtain ⟨k, hk, rfl, HO, hx⟩ := hrel
    have hzr := hx.size
    have HX := Lib.hid hx
    clear hx
    obtain ⟨a5, n5, c5, rfl⟩ := osl_slice HO.out
    by_cases hlt : k < l.length
    · obtain ⟨b, o, p, d, s, ap, cp, rfl, hb, ek, ick, hpp, y0, y1, y2⟩ := atm_at (HL.out wr HX.out) hlt
      have HIC := Lib.hid ick
      have HPP := Lib.hid (fun (W : World) (hx : Ext wr W) => hpp.ext gStp hx)
      have HGG := Lib.hid (fun (W : World) (hx : Ext wr W) => hasGone_any (HMS.out W (ext_trans HX.out hx)) (rmk_of' (hpp.ext gStp hx) ick))
      have HOL := Lib.hid (osl_lt HO.out)
      cases hh : hasG ms (p, d) with
      | true =>
        have HEK := Lib.hid (takeA_yes ek hh)
        rw [hh] at HGG
        clear ek ick hpp hh
        go_wp2_with (go_at_call 49; go_must ((with_reducible refine (HGG.out _ (by repeat (first | (with_reducible exact ext_refl _) | (with_reducible assumption) | (with_reducible refine ext_drew ?_) | (with_reducible refine ext_drewN ?_ _) | (with_reducible refine ext_alloc ?_ _) | (with_reducible refine ext_set ?_ (by first | omega | (simp <;> omega)) _) | (with_reducible refine ext_trans ?_ (by with_reducible assumption))))).mono ?_); rintro e w1 ⟨rfl, hx1⟩; skip))
        go_roundw
        case rel => exact ⟨k + 1, by omega, by go_num, Lib.hid (by rw [HEK.out]; exact osl_ext gAt HO.out hx1), ext_trans HX.out hx1⟩
        case measure => simp [intOf]; omega
      | false =>
        have HEK := Lib.hid (takeA_no ek hh)
        have hql := takeA_len' l ms k hl3
        rw [hh] at HGG
        generalize takeA (l.take k) ms = q at *
        obtain rfl : n5 = q.length := (osl_len HO.out).1
        clear ek ick hpp hh
        go_wp2_with (first
          | (go_at_call 49; go_must ((with_reducible refine (HGG.out _ (by repeat (first | (with_reducible exact ext_refl _) | (with_reducible assumption) | (with_reducible refine ext_drew ?_) | (with_reducible refine ext_drewN ?_ _) | (with_reducible refine ext_alloc ?_ _) | (with_reducible refine ext_set ?_ (by first | omega | (simp <;> omega)) _) | (with_reducible refine ext_trans ?_ (by with_reducible assumption))))).mono ?_); rintro e w1 ⟨rfl, hx1⟩; have hz1 := hx1.size; (try simp at hz1); have hb1 : b < w1.heap.size := (by omega); have q0 := (hx1.cells (b) (o + k * 3) (by first | omega | (simp <;> omega))).trans (show _ = some (.slice ap p.length cp) by first | assumption | go_simp); have q1 := (hx1.cells (b) (o + k * 3 + 1) (by first | omega | (simp <;> omega))).trans (show _ = some (.int .i64 d) by first | assumption | go_simp); have q2 := (hx1.cells (b) (o + k * 3 + 2) (by first | omega | (simp <;> omega))).trans (show _ = some (.int .u8 s.toNat) by first | assumption | go_simp); have HX1 := Lib.hid hx1))
          | (at_builtin; go_must (refine wpList_appAll gAt rfl (.tmp 21) (.tmp 26) 59 rfl w.heap.size 77 i0 _ 3 40 Try.underlying59 HJ.out HZ0.out HZ1.out HZ2.out rfl (by omega) (F := fun _ => True) (G := fun j => j < w.heap.size ∨ w1.heap.size ≤ j) (.slice a5 q.length c5) q rfl (osl_ext gAt HO.out (ext_trans HX1.out (by repeat (first | (with_reducible exact ext_refl _) | (with_reducible assumption) | (with_reducible refine ext_drew ?_) | (with_reducible refine ext_drewN ?_ _) | (with_reducible refine ext_alloc ?_ _) | (with_reducible refine ext_set ?_ (by first | omega | (simp <;> omega)) _) | (with_reducible refine ext_trans ?_ (by with_reducible assumption)))))) _ [((p, d), s)] rfl (c_one (RSl.more gStp (fun j hj _ => Or.inl hj) (HPP.out _ (ext_trans HX1.out (by repeat (first | (with_reducible exact ext_refl _) | (with_reducible assumption) | (with_reducible refine ext_drew ?_) | (with_reducible refine ext_drewN ?_ _) | (with_reducible refine ext_alloc ?_ _) | (with_reducible refine ext_set ?_ (by first | omega | (simp <;> omega)) _) | (with_reducible refine ext_trans ?_ (by with_reducible assumption))))))) HIC.out (by first | assumption | go_simp) (by first | assumption | go_simp) (by first | assumption | go_simp) (Or.inr (by first | omega | (simp <;> omega))) (by first | omega | (simp <;> omega))) one_at (fun j hj _ => ⟨trivial, fun e => by have := HOL.out j e.symm; rcases hj with h | h <;> omega⟩) (c_len hql) (c_byt hql) (by first | omega | (simp <;> omega)) ?_; intro v9 w9 hown9 hg9 hat9; obtain ⟨a9, n9, c9, rfl⟩ := osl_slice hown9; have hx9 : Ext w w9 := ext_grow (ext_trans HX.out (ext_trans HX1.out (by repeat (first | (with_reducible exact ext_refl _) | (with_reducible assumption) | (with_reducible refine ext_drew ?_) | (with_reducible refine ext_drewN ?_ _) | (with_reducible refine ext_alloc ?_ _) | (with_reducible refine ext_set ?_ (by first | omega | (simp <;> omega)) _) | (with_reducible refine ext_trans ?_ (by with_reducible assumption)))))) hg9 (fun j hj => (HOL.out j hj).1); have HV9 := Lib.hid hown9)))
        go_roundw
        case rel => exact ⟨k + 1, by omega, by go_num, Lib.hid (by rw [HEK.out]; exact HV9.out), hx9⟩
        case measure => simp [intOf]; omega
    · have hkl : k = l.length := by omega
      subst hkl
      have HF := Lib.hid (show OSl RAt 3 77 w.heap.size (fun _ => True) wr (.slice a5 n5 c5) (takeA l ms) by have := HO.out; rwa [List.take_of_length_le (Nat.le_refl _)] at this)
      go_wp2
      go_ret
      exact ⟨_, rfl, osl_rsl gAt HF.out (fun _ _ _ => trivial) (fun _ _ => trivial), HX.out⟩
end Go.Proofs.Ytghfmgndddjofaa
