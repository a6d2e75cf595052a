/- The mark so many behind one. -/
import Derived.Test.YtghfmgndddjofaaW7
set_option linter.unusedVariables false
set_option linter.unusedSimpArgs false
namespace Go.Proofs.Ytghfmgndddjofaa
open Go Go.RowKit Cp

theorem stp_put {l : List Stp} {i : Nat} {x y x' : Int} (h : l[i]? = some (x, y)) (hx : I64 x') :
    ∀ (G : Nat → Prop) (W : World) (cs : List Value) (s : Stp), l[i]? = some s → RStp G W cs s → RStp G W (cs.set 0 (.int .i64 x')) (x', y) := by
  rintro G W cs s hs ⟨rfl, _, iy⟩
  rw [h] at hs
  have : (x, y) = s := by simpa using hs
  subst this
  exact ⟨rfl, hx, iy⟩
theorem i64_small {n : Int} (h1 : -100000 ≤ n) (h2 : n ≤ 100000) : I64 n := by unfold I64; omega
theorem addLast_set {l : List Stp} {x y k : Int} (h : l[l.length - 1]? = some (x, y)) : addLast l k = l.set (l.length - 1) (x + k, y) := by
  have hne : l ≠ [] := by rintro rfl; simp at h
  obtain ⟨q, s, rfl⟩ := snoc_of hne
  rw [addLast_snoc]
  have e : (q ++ [s]).length - 1 = q.length := by simp
  rw [e] at h ⊢
  rw [List.getElem?_append_right (Nat.le_refl _)] at h
  have hs : s = (x, y) := by simpa using h
  subst hs
  rw [List.set_append_right _ _ (Nat.le_refl _)]; simp

set_option maxRecDepth 100000 in
theorem after_any {F : Nat → Prop} {w : World} {cs : List Value} {m : Mk} {k : Int} (h : RMk F w cs m) (hsz : m.1.length ≤ 8000000000000) (hne : m.1 ≠ [])
    (hd : 0 ≤ lastDigit m.1 ∧ lastDigit m.1 ≤ 1000) (hc : 0 ≤ m.2 ∧ m.2 ≤ 20000) (hk : 0 ≤ k ∧ k ≤ 1000) :
    Calls Try.prog 135 #[.agg cs.toArray, .int .i64 k] w (IsMark (afterM m k) w) := by
  have HO := Lib.hid (fun (W : World) (hx : Ext w W) => own_any (gMk.ext h hx) hsz)
  obtain ⟨v, rfl, hl, hi64⟩ := h
  obtain ⟨l, c⟩ := m
  simp only at hl hsz hne hd hc ⊢
  obtain ⟨a1, n1, c1, rfl⟩ := hl.slice
  obtain ⟨rfl, _, _⟩ := hl.len
  clear hl hi64
  have hlt : l.length - 1 < l.length := by
    have := List.length_pos_iff.2 hne
    omega
  obtain ⟨c0, c2⟩ := hc
  obtain ⟨k0, k2⟩ := hk
  have HD := Lib.hid hd
  clear hd
  go_enter Try.func135, Try.ntmps135
  go_wp2_with (go_at_call 127; go_must (refine (HO.out _ (ext_alloc (ext_alloc (ext_refl _) _) _)).mono ?_; rintro e w1 ⟨cs1, rfl, hm1, hx1⟩; obtain ⟨v1, rfl, hv1, _⟩ := hm1; obtain ⟨a3, n3, c3, rfl⟩ := osl_slice hv1; obtain ⟨g3, s3, cs2, rfl, rfl, hg3, hg3', e3, _, hr3, hs3, hf3⟩ := osl_at hv1 hlt; obtain ⟨x3, y3⟩ := s3; obtain ⟨rfl, ix, iy⟩ := hs3; have z6 := hr3 0 _ rfl; have z7 := hr3 1 _ rfl; have z8 := hf3 ((l.length - 1) * 2); simp only [Nat.add_zero] at z6 z7; have hd1 : 0 ≤ x3 := (lastDigit_at e3) ▸ HD.out.1; have hd2 : x3 ≤ 1000 := (lastDigit_at e3) ▸ HD.out.2; have HV1 := Lib.hid hv1; have HE3 := Lib.hid e3; have y0 := (hx1.cells (w.heap.size + 1) 0 (by simp <;> omega)).trans (show _ = some (.slice none 0 0) by go_simp); have y1 := (hx1.cells (w.heap.size + 1) 1 (by simp <;> omega)).trans (show _ = some (.int .i64 0) by go_simp); have y2 := (hx1.frz (w.heap.size + 1) 0 (by simp <;> omega)).trans (show _ = false by go_simp); have y3f := (hx1.frz (w.heap.size + 1) 1 (by simp <;> omega)).trans (show _ = false by go_simp); have hs1 : w.heap.size + 1 < w1.heap.size := (by have := hx1.size; simp at this; omega); have hn1 : ¬ g3 = w.heap.size + 1 := (by simp at hg3; omega); have hn2 : ¬ w.heap.size + 1 = g3 := (by omega); have HX1 := Lib.hid hx1; clear hv1 e3 hr3 hf3 hx1))
  have hg0 : w.heap.size + 1 < g3 := (by simp at hg3; omega)
  refine bodyPost_end (v := .agg #[.slice (some ⟨g3, 0, none⟩) l.length c3, .int .i64 (c + k)]) (by simp [results, Try.results135, go_sem, y0, y1, hs1]) rfl ⟨[.slice (some ⟨g3, 0, none⟩) l.length c3, .int .i64 (c + k)], rfl, ⟨_, rfl, ?_, ?_⟩, ?_⟩
  · show OSl _ _ _ _ _ _ _ (addLast l k)
    rw [addLast_set HE3.out]
    exact osl_leaf lf_stp (osl_put gStp HV1.out hlt (j := 0) (by omega) (stp_put HE3.out (x' := x3 + k) (i64_small (by omega) (by omega)))) (by repeat (first | exact keeps_refl | refine keeps_drew ?_ | refine keeps_alloc ?_ _ | refine keeps_set ?_ (by simp <;> omega) _)) (by simp <;> omega)
  · exact i64_small (by simp only [afterM]; omega) (by simp only [afterM]; omega)
  · exact (by repeat (first | exact ext_refl _ | refine ext_drew ?_ | refine ext_drewN ?_ _ | refine ext_alloc ?_ _ | refine ext_set ?_ (by simp <;> omega) _ | refine ext_call ?_ HX1.out))
end Go.Proofs.Ytghfmgndddjofaa
