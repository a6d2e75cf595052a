/- atom.Take, by the program. -/
import Derived.Test.YtghfmgndddjofaaCD
import Derived.Test.YtghfmgndddjofaaC5
set_option linter.unusedVariables false
set_option linter.unusedSimpArgs false
namespace Go.Proofs.Ytghfmgndddjofaa
open Go Go.RowKit Go.BigFrame Cp

def takeE (l : List At) (ms : List Mk) : List At × Int := if checkA l ≠ 0 then ([], checkA l) else (takeA l ms, 0)
theorem takeE_bad {l : List At} {ms : List Mk} (h : ¬ checkA l = 0) : takeE l ms = ([], checkA l) := by unfold takeE; rw [if_pos h]
theorem takeE_ok {l : List At} {ms : List Mk} (h : checkA l = 0) : takeE l ms = (takeA l ms, 0) := by unfold takeE; rw [if_neg (by omega)]
set_option maxRecDepth 100000 in
set_option maxHeartbeats 4000000 in
theorem takeP_any {F G : Nat → Prop} {w : World} {v u : Value} {l : List At} {ms : List Mk} (h : RSl RAt 3 F w v l) (k : RSl RMk 2 G w u ms) :
    Calls Try.prog 39 #[v, u] w (IsAtE (takeE l ms) w) := by
  have HC1 := Lib.hid (fun (W : World) (hx : Ext w W) => checkAtomsP_any (h.ext gAt hx))
  have HMS := Lib.hid (fun (W : World) (hx : Ext w W) => (RSl.more gMk (fun _ _ _ => trivial) k : RSl RMk 2 (fun _ => True) w u ms).ext gMk hx)
  obtain ⟨a1, n1, c1, rfl⟩ := k.slice
  obtain ⟨a0, n0, c0, rfl⟩ := h.slice
  by_cases h0 : checkA l = 0
  · have hl := (checkA_ok h0).1
    have HL := Lib.hid (show l.length ≤ 1000 by omega)
    have HOW := Lib.hid (fun (W : World) (hx : Ext w W) => ownAtoms_any (h.ext gAt hx) (by omega) (fun a ha => check_len ((checkA_ok h0).2.2 a ha).1))
    rw [takeE_ok h0]
    rw [h0] at HC1
    clear h k h0 hl
    go_enter Try.func39, Try.ntmps39
    go_wp2_with (first
      | (go_at_call 45; go_must ((with_reducible refine (HC1.out _ (by repeat (first | (with_reducible exact ext_refl _) | (with_reducible assumption) | (with_reducible refine ext_drew ?_) | (with_reducible refine ext_drewN ?_ _) | (with_reducible refine ext_alloc ?_ _) | (with_reducible refine ext_set ?_ (by first | omega | (simp <;> omega)) _) | (with_reducible refine ext_trans ?_ (by with_reducible assumption))))).mono ?_); rintro e w1 ⟨rfl, hx1⟩; have hz1 := hx1.size; (try simp at hz1); have hb1_0 : w.heap.size < w1.heap.size := (by omega); have q0 := (hx1.cells (w.heap.size) (0) (by first | omega | (simp <;> omega))).trans (show _ = some (.slice a1 n1 c1) by first | assumption | go_simp)))
      | (go_at_call 88; go_must ((with_reducible refine (HOW.out _ (by repeat (first | (with_reducible exact ext_refl _) | (with_reducible assumption) | (with_reducible refine ext_drew ?_) | (with_reducible refine ext_drewN ?_ _) | (with_reducible refine ext_alloc ?_ _) | (with_reducible refine ext_set ?_ (by first | omega | (simp <;> omega)) _) | (with_reducible refine ext_trans ?_ (by with_reducible assumption))))).mono ?_); rintro e w2 ⟨v2, rfl, hv2, hx2⟩; obtain ⟨a2, n2, c2, rfl⟩ := osl_slice hv2; have HB := Lib.hid (show BoxMs w.heap.size ms w1 from ⟨a1, n1, c1, q0, HMS.out _ (by repeat (first | (with_reducible exact ext_refl _) | (with_reducible assumption) | (with_reducible refine ext_drew ?_) | (with_reducible refine ext_drewN ?_ _) | (with_reducible refine ext_alloc ?_ _) | (with_reducible refine ext_set ?_ (by first | omega | (simp <;> omega)) _) | (with_reducible refine ext_trans ?_ (by with_reducible assumption)))), hb1_0⟩); have HV2 := Lib.hid hv2; have HZ := Lib.hid (show w.heap.size ≤ w1.heap.size by omega); clear hv2))
      | (go_at_call 87; go_must ((with_reducible refine (delete_any (w0 := w1) HV2.out HL.out (by repeat (first | (with_reducible exact ext_refl _) | (with_reducible assumption) | (with_reducible refine ext_drew ?_) | (with_reducible refine ext_drewN ?_ _) | (with_reducible refine ext_alloc ?_ _) | (with_reducible refine ext_set ?_ (by first | omega | (simp <;> omega)) _) | (with_reducible refine ext_trans ?_ (by with_reducible assumption)))) HB.out).mono ?_); rintro e w3 ⟨v3, rfl, hv3, hx3⟩; obtain ⟨a3, n3, c3, rfl⟩ := osl_slice hv3)))
    refine bodyPost_ret (v := .tuple #[.slice a3 n3 c3, .int .i64 0]) (by simp [results, Try.results39, go_sem]) rfl ⟨_, rfl, osl_rsl gAt hv3 (G := fun k => w.heap.size ≤ k) (fun k hk _ => Nat.le_trans HZ.out hk) (fun k hk => Nat.le_trans HZ.out hk), (by repeat (first | (with_reducible exact ext_refl _) | (with_reducible assumption) | (with_reducible refine ext_drew ?_) | (with_reducible refine ext_drewN ?_ _) | (with_reducible refine ext_alloc ?_ _) | (with_reducible refine ext_set ?_ (by first | omega | (simp <;> omega)) _) | (with_reducible refine ext_trans ?_ (by with_reducible assumption))))⟩
  · rw [takeE_bad h0]
    have t1 : (checkA l != 0) = true := by simpa using h0
    generalize checkA l = el at *
    clear h k h0
    go_enter Try.func39, Try.ntmps39
    go_wp2_with (first
      | (go_at_call 45; go_must ((with_reducible refine (HC1.out _ (by repeat (first | (with_reducible exact ext_refl _) | (with_reducible assumption) | (with_reducible refine ext_drew ?_) | (with_reducible refine ext_drewN ?_ _) | (with_reducible refine ext_alloc ?_ _) | (with_reducible refine ext_set ?_ (by first | omega | (simp <;> omega)) _) | (with_reducible refine ext_trans ?_ (by with_reducible assumption))))).mono ?_); rintro e w1 ⟨rfl, hx1⟩; skip)))
    refine bodyPost_ret (v := .tuple #[.slice none 0 0, .int .i64 el]) (by simp [results, Try.results39, go_sem]) rfl ⟨_, rfl, RSl.nil_ (Nat.zero_le _), (by repeat (first | (with_reducible exact ext_refl _) | (with_reducible assumption) | (with_reducible refine ext_drew ?_) | (with_reducible refine ext_drewN ?_ _) | (with_reducible refine ext_alloc ?_ _) | (with_reducible refine ext_set ?_ (by first | omega | (simp <;> omega)) _) | (with_reducible refine ext_trans ?_ (by with_reducible assumption))))⟩
end Go.Proofs.Ytghfmgndddjofaa
