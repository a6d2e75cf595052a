/- atom.Put, by the program. -/
import Derived.Test.YtghfmgndddjofaaC4
import Derived.Test.YtghfmgndddjofaaA2
set_option linter.unusedVariables false
set_option linter.unusedSimpArgs false
namespace Go.Proofs.Ytghfmgndddjofaa
open Go Go.RowKit Go.BigFrame Cp

def putE (l m : List At) : List At × Int :=
  if checkA l ≠ 0 then ([], checkA l) else if checkA m ≠ 0 then ([], checkA m) else if 300 < (mergeA l m).length then ([], 2) else (mergeA l m, 0)
theorem putE_l {l m : List At} (h : ¬ checkA l = 0) : putE l m = ([], checkA l) := by unfold putE; rw [if_pos h]
theorem putE_m {l m : List At} (h : checkA l = 0) (h2 : ¬ checkA m = 0) : putE l m = ([], checkA m) := by unfold putE; rw [if_neg (by omega), if_pos h2]
theorem putE_many {l m : List At} (h : checkA l = 0) (h2 : checkA m = 0) (h3 : 300 < (mergeA l m).length) : putE l m = ([], 2) := by unfold putE; rw [if_neg (by omega), if_neg (by omega), if_pos h3]
theorem putE_ok {l m : List At} (h : checkA l = 0) (h2 : checkA m = 0) (h3 : ¬ 300 < (mergeA l m).length) : putE l m = (mergeA l m, 0) := by unfold putE; rw [if_neg (by omega), if_neg (by omega), if_neg h3]
def IsAtE (x : List At × Int) (w : World) (e : Ending) (w' : World) : Prop := ∃ v, e = .returned (.tuple #[v, .int .i64 x.2]) ∧ RSl RAt 3 (fun k => w.heap.size ≤ k) w' v x.1 ∧ Ext w w'
set_option maxRecDepth 100000 in
set_option maxHeartbeats 4000000 in
theorem putAtoms_any {F1 F2 : Nat → Prop} {w : World} {v u : Value} {l m : List At} (h : RSl RAt 3 F1 w v l) (k : RSl RAt 3 F2 w u m) :
    Calls Try.prog 38 #[v, u] w (IsAtE (putE l m) w) := by
  have HC1 := Lib.hid (fun (W : World) (hx : Ext w W) => checkAtomsP_any (h.ext gAt hx))
  have HC2 := Lib.hid (fun (W : World) (hx : Ext w W) => checkAtomsP_any (k.ext gAt hx))
  have HME := Lib.hid (fun (h1 : checkA l = 0) (h2 : checkA m = 0) (W : World) (hx : Ext w W) => merge_any (h.ext gAt hx) (k.ext gAt hx) (right_of h1) (right_of h2) (checkA_ok h1).1 (checkA_ok h2).1)
  obtain ⟨a0, n0, c0, rfl⟩ := h.slice
  obtain ⟨a1, n1, c1, rfl⟩ := k.slice
  clear h k
  obtain ⟨pe, hpe⟩ : ∃ pe, pe = putE l m := ⟨_, rfl⟩
  rw [← hpe]
  have HPE := Lib.hid hpe
  clear hpe
  go_enter Try.func38, Try.ntmps38
  go_wp2
  refine wp_name (fun wb ewb => ?_)
  have b0 : wb.cell? ⟨w.heap.size, 0, none⟩ = some (.slice a0 n0 c0) := by rw [ewb]; go_simp
  have b1 : wb.cell? ⟨w.heap.size, 1, none⟩ = some (.slice a1 n1 c1) := by rw [ewb]; go_simp
  have hbb : w.heap.size < wb.heap.size := by rw [ewb]; simp
  have hwb : Ext w wb := by rw [ewb]; exact (by repeat (first | (with_reducible exact ext_refl _) | (with_reducible assumption) | (with_reducible refine ext_drew ?_) | (with_reducible refine ext_drewN ?_ _) | (with_reducible refine ext_alloc ?_ _) | (with_reducible refine ext_set ?_ (by first | omega | (simp <;> omega)) _) | (with_reducible refine ext_trans ?_ (by with_reducible assumption))))
  have HWB := Lib.hid hwb
  clear ewb hwb
  go_loopw [14] (fun iv wr => ∃ k : Nat, k ≤ 2 ∧ iv = .int .i64 k ∧ Hid (1 ≤ k → checkA l = 0) ∧ Hid (2 ≤ k → checkA m = 0) ∧ Ext wb wr) (fun iv _ => 2 - (intOf iv).toNat)
  case atStart => exact ⟨0, by omega, rfl, Lib.hid (fun h => by omega), Lib.hid (fun h => by omega), ext_refl _⟩
  case round =>
    obtain ⟨k, hk, rfl, H1, H2, hx⟩ := hrel
    have z0 := (hx.cells w.heap.size 0 hbb).trans b0
    have z1 := (hx.cells w.heap.size 1 hbb).trans b1
    have HX := Lib.hid (ext_trans HWB.out hx)
    have HXB := Lib.hid hx
    clear hx b0 b1
    by_cases k0 : k = 0
    · subst k0
      by_cases h1 : checkA l = 0
      · rw [h1] at HC1
        have HH := Lib.hid h1
        clear h1 HC2 HME z1
        go_wp2_with (go_at_call 45; go_must ((with_reducible refine (HC1.out _ (ext_trans HX.out (by repeat (first | (with_reducible exact ext_refl _) | (with_reducible assumption) | (with_reducible refine ext_drew ?_) | (with_reducible refine ext_drewN ?_ _) | (with_reducible refine ext_alloc ?_ _) | (with_reducible refine ext_set ?_ (by first | omega | (simp <;> omega)) _) | (with_reducible refine ext_trans ?_ (by with_reducible assumption)))))).mono ?_); rintro e w1 ⟨rfl, hx1⟩; skip))
        go_roundw
        case rel => exact ⟨0 + 1, by omega, by go_num, Lib.hid (fun _ => HH.out), Lib.hid (fun h => by omega), ext_trans HXB.out hx1⟩
        case measure => simp [intOf]
      · have t1 : (checkA l != 0) = true := by simpa using h1
        obtain rfl := HPE.out.trans (putE_l h1)
        generalize checkA l = er at *
        clear h1 H1 H2 HME HC2 z1
        go_wp2_with (go_at_call 45; go_must ((with_reducible refine (HC1.out _ (ext_trans HX.out (by repeat (first | (with_reducible exact ext_refl _) | (with_reducible assumption) | (with_reducible refine ext_drew ?_) | (with_reducible refine ext_drewN ?_ _) | (with_reducible refine ext_alloc ?_ _) | (with_reducible refine ext_set ?_ (by first | omega | (simp <;> omega)) _) | (with_reducible refine ext_trans ?_ (by with_reducible assumption)))))).mono ?_); rintro e w1 ⟨rfl, hx1⟩; skip))
        refine bodyPost_ret (v := .tuple #[.slice none 0 0, .int .i64 er]) (by simp [results, Try.results38, go_sem]) rfl ⟨_, rfl, RSl.nil_ (Nat.zero_le _), ext_trans HX.out (by repeat (first | (with_reducible exact ext_refl _) | (with_reducible assumption) | (with_reducible refine ext_drew ?_) | (with_reducible refine ext_drewN ?_ _) | (with_reducible refine ext_alloc ?_ _) | (with_reducible refine ext_set ?_ (by first | omega | (simp <;> omega)) _) | (with_reducible refine ext_trans ?_ (by with_reducible assumption))))⟩
    · by_cases k1 : k = 1
      · subst k1
        have h1 := H1.out (Nat.le_refl _)
        by_cases h2 : checkA m = 0
        · rw [h2] at HC2
          have HH := Lib.hid h2
          have HH1 := Lib.hid h1
          clear h1 h2 HC1 HME z0
          go_wp2_with (go_at_call 45; go_must ((with_reducible refine (HC2.out _ (ext_trans HX.out (by repeat (first | (with_reducible exact ext_refl _) | (with_reducible assumption) | (with_reducible refine ext_drew ?_) | (with_reducible refine ext_drewN ?_ _) | (with_reducible refine ext_alloc ?_ _) | (with_reducible refine ext_set ?_ (by first | omega | (simp <;> omega)) _) | (with_reducible refine ext_trans ?_ (by with_reducible assumption)))))).mono ?_); rintro e w1 ⟨rfl, hx1⟩; skip))
          go_roundw
          case rel => exact ⟨1 + 1, by omega, by go_num, Lib.hid (fun _ => HH1.out), Lib.hid (fun _ => HH.out), ext_trans HXB.out hx1⟩
          case measure => simp [intOf]
        · have t1 : (checkA m != 0) = true := by simpa using h2
          obtain rfl := HPE.out.trans (putE_m h1 h2)
          clear H1 h1 HME HC1 z0
          generalize checkA m = er at *
          clear h2 H2
          go_wp2_with (go_at_call 45; go_must ((with_reducible refine (HC2.out _ (ext_trans HX.out (by repeat (first | (with_reducible exact ext_refl _) | (with_reducible assumption) | (with_reducible refine ext_drew ?_) | (with_reducible refine ext_drewN ?_ _) | (with_reducible refine ext_alloc ?_ _) | (with_reducible refine ext_set ?_ (by first | omega | (simp <;> omega)) _) | (with_reducible refine ext_trans ?_ (by with_reducible assumption)))))).mono ?_); rintro e w1 ⟨rfl, hx1⟩; skip))
          refine bodyPost_ret (v := .tuple #[.slice none 0 0, .int .i64 er]) (by simp [results, Try.results38, go_sem]) rfl ⟨_, rfl, RSl.nil_ (Nat.zero_le _), ext_trans HX.out (by repeat (first | (with_reducible exact ext_refl _) | (with_reducible assumption) | (with_reducible refine ext_drew ?_) | (with_reducible refine ext_drewN ?_ _) | (with_reducible refine ext_alloc ?_ _) | (with_reducible refine ext_set ?_ (by first | omega | (simp <;> omega)) _) | (with_reducible refine ext_trans ?_ (by with_reducible assumption))))⟩
      · obtain rfl : k = 2 := by omega
        have h1 := H1.out (by omega)
        have h2 := H2.out (by omega)
        have HMM := Lib.hid (HME.out h1 h2)
        clear HME HC1 HC2 z0 z1
        by_cases h3 : 300 < (mergeA l m).length
        · obtain rfl := HPE.out.trans (putE_many h1 h2 h3)
          have t1 : decide ((300 : Int) < ((mergeA l m).length : Int)) = true := decide_eq_true (by omega)
          generalize mergeA l m = q at *
          clear h1 h2 H1 H2
          go_wp2_with (go_at_call 82; go_must ((with_reducible refine (HMM.out _ (ext_trans HX.out (by repeat (first | (with_reducible exact ext_refl _) | (with_reducible assumption) | (with_reducible refine ext_drew ?_) | (with_reducible refine ext_drewN ?_ _) | (with_reducible refine ext_alloc ?_ _) | (with_reducible refine ext_set ?_ (by first | omega | (simp <;> omega)) _) | (with_reducible refine ext_trans ?_ (by with_reducible assumption)))))).mono ?_); rintro e w3 ⟨v3, rfl, hv3, hx3⟩; obtain ⟨a3, n3, c3, rfl⟩ := osl_slice hv3; obtain rfl : n3 = q.length := (osl_len hv3).1; have HV3 := Lib.hid hv3; clear hv3))
          refine bodyPost_ret (v := .tuple #[.slice none 0 0, .int .i64 2]) (by simp [results, Try.results38, go_sem]) rfl ⟨_, rfl, RSl.nil_ (Nat.zero_le _), ext_trans HX.out (by repeat (first | (with_reducible exact ext_refl _) | (with_reducible assumption) | (with_reducible refine ext_drew ?_) | (with_reducible refine ext_drewN ?_ _) | (with_reducible refine ext_alloc ?_ _) | (with_reducible refine ext_set ?_ (by first | omega | (simp <;> omega)) _) | (with_reducible refine ext_trans ?_ (by with_reducible assumption))))⟩
        · obtain rfl := HPE.out.trans (putE_ok h1 h2 h3)
          have t1 : decide ((300 : Int) < ((mergeA l m).length : Int)) = false := decide_eq_false (by omega)
          generalize mergeA l m = q at *
          clear h1 h2 H1 H2
          have hzx := HX.out.size
          go_wp2_with (go_at_call 82; go_must ((with_reducible refine (HMM.out _ (ext_trans HX.out (by repeat (first | (with_reducible exact ext_refl _) | (with_reducible assumption) | (with_reducible refine ext_drew ?_) | (with_reducible refine ext_drewN ?_ _) | (with_reducible refine ext_alloc ?_ _) | (with_reducible refine ext_set ?_ (by first | omega | (simp <;> omega)) _) | (with_reducible refine ext_trans ?_ (by with_reducible assumption)))))).mono ?_); rintro e w3 ⟨v3, rfl, hv3, hx3⟩; obtain ⟨a3, n3, c3, rfl⟩ := osl_slice hv3; obtain rfl : n3 = q.length := (osl_len hv3).1; have HV3 := Lib.hid hv3; clear hv3))
          refine bodyPost_ret (v := .tuple #[.slice a3 q.length c3, .int .i64 0]) (by simp [results, Try.results38, go_sem]) rfl ⟨_, rfl, osl_rsl gAt HV3.out (fun j hj _ => Nat.le_trans hzx hj) (fun j hj => Nat.le_trans hzx hj), ext_trans HX.out (by repeat (first | (with_reducible exact ext_refl _) | (with_reducible assumption) | (with_reducible refine ext_drew ?_) | (with_reducible refine ext_drewN ?_ _) | (with_reducible refine ext_alloc ?_ _) | (with_reducible refine ext_set ?_ (by first | omega | (simp <;> omega)) _) | (with_reducible refine ext_trans ?_ (by with_reducible assumption))))⟩
end Go.Proofs.Ytghfmgndddjofaa
