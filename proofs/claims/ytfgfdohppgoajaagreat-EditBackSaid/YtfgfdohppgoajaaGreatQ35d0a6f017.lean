/- edit.near: the marks ahead of a place and behind it. -/
import Derived.Test.YtfgfdohppgoajaaGreatQ5ab4d67304
import Derived.Test.YtfgfdohppgoajaaGreatQa1b06f5163
import Derived.Test.YtfgfdohppgoajaaGreatQ474d344618
import Derived.Deep.RegionLaw
import Derived.Deep.Cut
set_option linter.unusedVariables false
set_option linter.unusedSimpArgs false
namespace Go.Proofs.YtfgfdohppgoajaaGreat
open Go Go.RowKit Go.BigFrame Cp

def nearA (l : List At) (k : Nat) : Mk := if k = 0 then ([], 0) else ((l[k - 1]?).map (·.1)).getD ([], 0)
def nearB (l : List At) (k : Nat) : Mk := ((l[k]?).map (·.1)).getD ([], 0)
def IsNear (a b : Mk) (w : World) (e : Ending) (w' : World) : Prop := ∃ cs ds, e = .returned (.tuple #[.agg (cs : List Value).toArray, .agg (ds : List Value).toArray]) ∧ RMk (fun _ => True) w' cs a ∧ RMk (fun _ => True) w' ds b ∧ Ext w w'
theorem rmk_0 {F : Nat → Prop} {w : World} : RMk F w [.slice none 0 0, .int .i64 0] ([], 0) := ⟨_, rfl, RSl.nil_ (Nat.zero_le _), i64_small (by simp) (by simp)⟩
set_option maxRecDepth 100000 in
set_option maxHeartbeats 4000000 in
theorem near_any {F : Nat → Prop} {w : World} {cs : List Value} {s : St} {k : Nat} (h : RSt F w cs s) (hk : k ≤ s.1.length) (hl3 : s.1.length ≤ 300) :
    Calls Tryz.prog 48 #[.agg cs.toArray, .int .i64 k] w (IsNear (nearA s.1 k) (nearB s.1 k) w) := by
  obtain ⟨v, u, rfl, h1, h2⟩ := h
  obtain ⟨la, lg⟩ := s
  simp only at h1 h2 hk hl3 ⊢
  obtain ⟨a0, n0, c0, rfl⟩ := h1.slice
  obtain ⟨a1, n1, c1, rfl⟩ := h2.slice
  obtain rfl : n0 = la.length := h1.len.1
  have HA := Lib.hid (fun (W : World) (hx : Ext w W) => (RSl.more gAt (fun _ _ _ => trivial) h1 : RSl RAt 3 (fun _ => True) w _ la).ext gAt hx)
  clear h2
  by_cases hk0 : k = 0
  · subst hk0
    have ha : nearA la 0 = ([], 0) := rfl
    rw [ha]
    by_cases hlt : 0 < la.length
    · obtain ⟨b, o, p, d, s, ap, cp, rfl, hb, ek, ick, hpp, y0, y1, y2⟩ := atm_at (HA.out w (ext_refl _)) hlt
      simp only [Nat.zero_mul, Nat.add_zero] at y0 y1 y2
      have hb' : nearB la 0 = (p, d) := by unfold nearB; rw [ek]; rfl
      rw [hb']
      have t1 : decide ((0 : Int) < (la.length : Int)) = true := decide_eq_true (by omega)
      have t2 : ¬ la = [] := by intro h; subst h; simp at hlt
      have nn0 : ¬ b = w.heap.size := (by omega); have nn1 : ¬ b = w.heap.size + 1 := (by omega); have nn2 : ¬ b = w.heap.size + 1 + 1 := (by omega); have nn3 : ¬ b = w.heap.size + 1 + 1 + 1 := (by omega); have nn4 : ¬ b = w.heap.size + 1 + 1 + 1 + 1 := (by omega); have nnl0 : b ≤ w.heap.size := (by omega); have nnl1 : b ≤ w.heap.size + 1 := (by omega); have nnl2 : b ≤ w.heap.size + 1 + 1 := (by omega); have nnl3 : b ≤ w.heap.size + 1 + 1 + 1 := (by omega); have nnl4 : b ≤ w.heap.size + 1 + 1 + 1 + 1 := (by omega)
      have HM := Lib.hid (fun (W : World) (hx : Ext w W) => rmk_of' (hpp.ext gStp hx) ick)
      clear ek hpp ick h1 ha hb'
      go_enter Tryz.func48, Tryz.ntmps48
      go_upto_if 9 with (fail)
      refine wp_name (fun W eW => ?_)
      have e0 : W.cell? ⟨w.heap.size, 0, none⟩ = some (.slice (some ⟨b, o, none⟩) la.length c0) := by rw [eW]; go_simp
      have e1 : W.cell? ⟨w.heap.size, 1, none⟩ = some (.slice a1 n1 c1) := by rw [eW]; go_simp
      have e2 : W.cell? ⟨w.heap.size + 1, 0, none⟩ = some (.slice none 0 0) := by rw [eW]; go_simp
      have e3 : W.cell? ⟨w.heap.size + 1, 1, none⟩ = some (.int .i64 0) := by rw [eW]; go_simp
      have e4 : W.cell? ⟨w.heap.size + 1 + 1, 0, none⟩ = some (.slice none 0 0) := by rw [eW]; go_simp
      have e5 : W.cell? ⟨w.heap.size + 1 + 1, 1, none⟩ = some (.int .i64 0) := by rw [eW]; go_simp
      have e6 : W.cell? ⟨w.heap.size + 1 + 1 + 1, 0, none⟩ = some (.slice none 0 0) := by rw [eW]; go_simp
      have e7 : W.cell? ⟨w.heap.size + 1 + 1 + 1, 1, none⟩ = some (.int .i64 0) := by rw [eW]; go_simp
      have e8 : W.cell? ⟨w.heap.size + 1 + 1 + 1 + 1, 0, none⟩ = some (.slice none 0 0) := by rw [eW]; go_simp
      have e9 : W.cell? ⟨w.heap.size + 1 + 1 + 1 + 1, 1, none⟩ = some (.int .i64 0) := by rw [eW]; go_simp
      have g10 : W.frozen? ⟨w.heap.size + 1, 0, none⟩ = false := by rw [eW]; go_simp
      have g11 : W.frozen? ⟨w.heap.size + 1, 1, none⟩ = false := by rw [eW]; go_simp
      have g20 : W.frozen? ⟨w.heap.size + 1 + 1, 0, none⟩ = false := by rw [eW]; go_simp
      have g21 : W.frozen? ⟨w.heap.size + 1 + 1, 1, none⟩ = false := by rw [eW]; go_simp
      have g30 : W.frozen? ⟨w.heap.size + 1 + 1 + 1, 0, none⟩ = false := by rw [eW]; go_simp
      have g31 : W.frozen? ⟨w.heap.size + 1 + 1 + 1, 1, none⟩ = false := by rw [eW]; go_simp
      have g40 : W.frozen? ⟨w.heap.size + 1 + 1 + 1 + 1, 0, none⟩ = false := by rw [eW]; go_simp
      have g41 : W.frozen? ⟨w.heap.size + 1 + 1 + 1 + 1, 1, none⟩ = false := by rw [eW]; go_simp
      have zW_0 : w.heap.size < W.heap.size := by rw [eW]; first | assumption | omega | (simp <;> omega)
      have zW_1 : w.heap.size + 1 < W.heap.size := by rw [eW]; first | assumption | omega | (simp <;> omega)
      have zW_2 : w.heap.size + 1 + 1 < W.heap.size := by rw [eW]; first | assumption | omega | (simp <;> omega)
      have zW_3 : w.heap.size + 1 + 1 + 1 < W.heap.size := by rw [eW]; first | assumption | omega | (simp <;> omega)
      have zW_4 : w.heap.size + 1 + 1 + 1 + 1 < W.heap.size := by rw [eW]; first | assumption | omega | (simp <;> omega)
      have hx : Ext w W := by rw [eW]; exact extA
      clear eW
      have y0W := (hx.cells _ _ hb).trans y0
      have y1W := (hx.cells _ _ hb).trans y1
      have y2W := (hx.cells _ _ hb).trans y2
      have hWb : b < W.heap.size := Nat.lt_of_lt_of_le hb hx.size
      go_wp2_with fail
      go_region_law (fail)
      all_goals go_wp2_with fail
      all_goals refine bodyPost_ret (v := .tuple #[.agg #[.slice none 0 0, .int .i64 0], .agg #[.slice ap p.length cp, .int .i64 d]]) (by simp [results, Tryz.results48, go_sem, e2, e3, e4, e5, e6, e7, e8, e9, zW_0, zW_1, zW_2, zW_3, zW_4]) rfl ⟨[.slice none 0 0, .int .i64 0], [.slice ap p.length cp, .int .i64 d], rfl, rmk_0, HM.out _ extA, extA⟩
    · have hz : la.length = 0 := by omega
      have hb' : nearB la 0 = ([], 0) := by unfold nearB; rw [List.getElem?_eq_none (by omega)]; rfl
      rw [hb']
      have t1 : decide ((0 : Int) < (la.length : Int)) = false := decide_eq_false (by omega)
      clear h1 ha hb'
      go_enter Tryz.func48, Tryz.ntmps48
      go_upto_if 9 with (fail)
      refine wp_name (fun W eW => ?_)
      have e0 : W.cell? ⟨w.heap.size, 0, none⟩ = some (.slice a0 la.length c0) := by rw [eW]; go_simp
      have e1 : W.cell? ⟨w.heap.size, 1, none⟩ = some (.slice a1 n1 c1) := by rw [eW]; go_simp
      have e2 : W.cell? ⟨w.heap.size + 1, 0, none⟩ = some (.slice none 0 0) := by rw [eW]; go_simp
      have e3 : W.cell? ⟨w.heap.size + 1, 1, none⟩ = some (.int .i64 0) := by rw [eW]; go_simp
      have e4 : W.cell? ⟨w.heap.size + 1 + 1, 0, none⟩ = some (.slice none 0 0) := by rw [eW]; go_simp
      have e5 : W.cell? ⟨w.heap.size + 1 + 1, 1, none⟩ = some (.int .i64 0) := by rw [eW]; go_simp
      have e6 : W.cell? ⟨w.heap.size + 1 + 1 + 1, 0, none⟩ = some (.slice none 0 0) := by rw [eW]; go_simp
      have e7 : W.cell? ⟨w.heap.size + 1 + 1 + 1, 1, none⟩ = some (.int .i64 0) := by rw [eW]; go_simp
      have e8 : W.cell? ⟨w.heap.size + 1 + 1 + 1 + 1, 0, none⟩ = some (.slice none 0 0) := by rw [eW]; go_simp
      have e9 : W.cell? ⟨w.heap.size + 1 + 1 + 1 + 1, 1, none⟩ = some (.int .i64 0) := by rw [eW]; go_simp
      have g10 : W.frozen? ⟨w.heap.size + 1, 0, none⟩ = false := by rw [eW]; go_simp
      have g11 : W.frozen? ⟨w.heap.size + 1, 1, none⟩ = false := by rw [eW]; go_simp
      have g20 : W.frozen? ⟨w.heap.size + 1 + 1, 0, none⟩ = false := by rw [eW]; go_simp
      have g21 : W.frozen? ⟨w.heap.size + 1 + 1, 1, none⟩ = false := by rw [eW]; go_simp
      have g30 : W.frozen? ⟨w.heap.size + 1 + 1 + 1, 0, none⟩ = false := by rw [eW]; go_simp
      have g31 : W.frozen? ⟨w.heap.size + 1 + 1 + 1, 1, none⟩ = false := by rw [eW]; go_simp
      have g40 : W.frozen? ⟨w.heap.size + 1 + 1 + 1 + 1, 0, none⟩ = false := by rw [eW]; go_simp
      have g41 : W.frozen? ⟨w.heap.size + 1 + 1 + 1 + 1, 1, none⟩ = false := by rw [eW]; go_simp
      have zW_0 : w.heap.size < W.heap.size := by rw [eW]; first | assumption | omega | (simp <;> omega)
      have zW_1 : w.heap.size + 1 < W.heap.size := by rw [eW]; first | assumption | omega | (simp <;> omega)
      have zW_2 : w.heap.size + 1 + 1 < W.heap.size := by rw [eW]; first | assumption | omega | (simp <;> omega)
      have zW_3 : w.heap.size + 1 + 1 + 1 < W.heap.size := by rw [eW]; first | assumption | omega | (simp <;> omega)
      have zW_4 : w.heap.size + 1 + 1 + 1 + 1 < W.heap.size := by rw [eW]; first | assumption | omega | (simp <;> omega)
      have hx : Ext w W := by rw [eW]; exact extA
      clear eW
      go_wp2_with fail
      go_region_law (fail)
      all_goals go_wp2_with fail
      all_goals refine bodyPost_ret (v := .tuple #[.agg #[.slice none 0 0, .int .i64 0], .agg #[.slice none 0 0, .int .i64 0]]) (by simp [results, Tryz.results48, go_sem, e2, e3, e4, e5, e6, e7, e8, e9, zW_0, zW_1, zW_2, zW_3, zW_4]) rfl ⟨[.slice none 0 0, .int .i64 0], [.slice none 0 0, .int .i64 0], rfl, rmk_0, rmk_0, extA⟩
  · obtain ⟨j, rfl⟩ : ∃ j, k = j + 1 := ⟨k - 1, by omega⟩
    have hj : j < la.length := by omega
    obtain ⟨b', o', p', d', s', ap', cp', rfl, hb9, ek', ick', hpp', z0, z1, z2⟩ := atm_at (HA.out w (ext_refl _)) hj
    have ha : nearA la (j + 1) = (p', d') := by unfold nearA; rw [if_neg (by omega), Nat.add_sub_cancel, ek']; rfl
    rw [ha]
    have nm0 : ¬ b' = w.heap.size := (by omega); have nm1 : ¬ b' = w.heap.size + 1 := (by omega); have nm2 : ¬ b' = w.heap.size + 1 + 1 := (by omega); have nm3 : ¬ b' = w.heap.size + 1 + 1 + 1 := (by omega); have nm4 : ¬ b' = w.heap.size + 1 + 1 + 1 + 1 := (by omega); have nml0 : b' ≤ w.heap.size := (by omega); have nml1 : b' ≤ w.heap.size + 1 := (by omega); have nml2 : b' ≤ w.heap.size + 1 + 1 := (by omega); have nml3 : b' ≤ w.heap.size + 1 + 1 + 1 := (by omega); have nml4 : b' ≤ w.heap.size + 1 + 1 + 1 + 1 := (by omega)
    have t0 : decide ((0 : Int) < (j : Int) + 1) = true := decide_eq_true (by omega)
    have t00 : (0 : Int) < (j : Int) + 1 := by omega
    have HM' := Lib.hid (fun (W : World) (hx : Ext w W) => rmk_of' (hpp'.ext gStp hx) ick')
    by_cases hlt : j + 1 < la.length
    · obtain ⟨b, o, p, d, s, ap, cp, hba, hb, ek, ick, hpp, y0, y1, y2⟩ := atm_at (HA.out w (ext_refl _)) hlt
      obtain ⟨rfl, rfl⟩ : b' = b ∧ o' = o := by simpa using hba
      have hb' : nearB la (j + 1) = (p, d) := by unfold nearB; rw [ek]; rfl
      rw [hb']
      have t1 : decide ((j : Int) + 1 < (la.length : Int)) = true := decide_eq_true (by omega)
      have HM := Lib.hid (fun (W : World) (hx : Ext w W) => rmk_of' (hpp.ext gStp hx) ick)
      clear ek hpp ick h1 ha hb' ek' hpp' ick' hba
      go_enter Tryz.func48, Tryz.ntmps48
      go_upto_if 9 with (fail)
      refine wp_name (fun W eW => ?_)
      have e0 : W.cell? ⟨w.heap.size, 0, none⟩ = some (.slice (some ⟨b', o', none⟩) la.length c0) := by rw [eW]; go_simp
      have e1 : W.cell? ⟨w.heap.size, 1, none⟩ = some (.slice a1 n1 c1) := by rw [eW]; go_simp
      have e2 : W.cell? ⟨w.heap.size + 1, 0, none⟩ = some (.slice none 0 0) := by rw [eW]; go_simp
      have e3 : W.cell? ⟨w.heap.size + 1, 1, none⟩ = some (.int .i64 0) := by rw [eW]; go_simp
      have e4 : W.cell? ⟨w.heap.size + 1 + 1, 0, none⟩ = some (.slice none 0 0) := by rw [eW]; go_simp
      have e5 : W.cell? ⟨w.heap.size + 1 + 1, 1, none⟩ = some (.int .i64 0) := by rw [eW]; go_simp
      have e6 : W.cell? ⟨w.heap.size + 1 + 1 + 1, 0, none⟩ = some (.slice none 0 0) := by rw [eW]; go_simp
      have e7 : W.cell? ⟨w.heap.size + 1 + 1 + 1, 1, none⟩ = some (.int .i64 0) := by rw [eW]; go_simp
      have e8 : W.cell? ⟨w.heap.size + 1 + 1 + 1 + 1, 0, none⟩ = some (.slice none 0 0) := by rw [eW]; go_simp
      have e9 : W.cell? ⟨w.heap.size + 1 + 1 + 1 + 1, 1, none⟩ = some (.int .i64 0) := by rw [eW]; go_simp
      have g10 : W.frozen? ⟨w.heap.size + 1, 0, none⟩ = false := by rw [eW]; go_simp
      have g11 : W.frozen? ⟨w.heap.size + 1, 1, none⟩ = false := by rw [eW]; go_simp
      have g20 : W.frozen? ⟨w.heap.size + 1 + 1, 0, none⟩ = false := by rw [eW]; go_simp
      have g21 : W.frozen? ⟨w.heap.size + 1 + 1, 1, none⟩ = false := by rw [eW]; go_simp
      have g30 : W.frozen? ⟨w.heap.size + 1 + 1 + 1, 0, none⟩ = false := by rw [eW]; go_simp
      have g31 : W.frozen? ⟨w.heap.size + 1 + 1 + 1, 1, none⟩ = false := by rw [eW]; go_simp
      have g40 : W.frozen? ⟨w.heap.size + 1 + 1 + 1 + 1, 0, none⟩ = false := by rw [eW]; go_simp
      have g41 : W.frozen? ⟨w.heap.size + 1 + 1 + 1 + 1, 1, none⟩ = false := by rw [eW]; go_simp
      have zW_0 : w.heap.size < W.heap.size := by rw [eW]; first | assumption | omega | (simp <;> omega)
      have zW_1 : w.heap.size + 1 < W.heap.size := by rw [eW]; first | assumption | omega | (simp <;> omega)
      have zW_2 : w.heap.size + 1 + 1 < W.heap.size := by rw [eW]; first | assumption | omega | (simp <;> omega)
      have zW_3 : w.heap.size + 1 + 1 + 1 < W.heap.size := by rw [eW]; first | assumption | omega | (simp <;> omega)
      have zW_4 : w.heap.size + 1 + 1 + 1 + 1 < W.heap.size := by rw [eW]; first | assumption | omega | (simp <;> omega)
      have hx : Ext w W := by rw [eW]; exact extA
      clear eW
      have y0W := (hx.cells _ _ hb).trans y0
      have y1W := (hx.cells _ _ hb).trans y1
      have y2W := (hx.cells _ _ hb).trans y2
      have z0W := (hx.cells _ _ hb9).trans z0
      have z1W := (hx.cells _ _ hb9).trans z1
      have z2W := (hx.cells _ _ hb9).trans z2
      have hWbp : b' < W.heap.size := Nat.lt_of_lt_of_le hb9 hx.size
      go_wp2_with fail
      go_region_law (fail)
      all_goals go_wp2_with fail
      all_goals refine bodyPost_ret (v := .tuple #[.agg #[.slice ap' p'.length cp', .int .i64 d'], .agg #[.slice ap p.length cp, .int .i64 d]]) (by simp [results, Tryz.results48, go_sem, e2, e3, e4, e5, e6, e7, e8, e9, zW_0, zW_1, zW_2, zW_3, zW_4]) rfl ⟨[.slice ap' p'.length cp', .int .i64 d'], [.slice ap p.length cp, .int .i64 d], rfl, HM'.out _ extA, HM.out _ extA, extA⟩
    · have hz : la.length = j + 1 := by omega
      have hb' : nearB la (j + 1) = ([], 0) := by unfold nearB; rw [List.getElem?_eq_none (by omega)]; rfl
      rw [hb']
      have t1 : decide ((j : Int) + 1 < (la.length : Int)) = false := decide_eq_false (by omega)
      clear h1 ha hb' ek' hpp' ick'
      go_enter Tryz.func48, Tryz.ntmps48
      go_upto_if 9 with (fail)
      refine wp_name (fun W eW => ?_)
      have e0 : W.cell? ⟨w.heap.size, 0, none⟩ = some (.slice (some ⟨b', o', none⟩) la.length c0) := by rw [eW]; go_simp
      have e1 : W.cell? ⟨w.heap.size, 1, none⟩ = some (.slice a1 n1 c1) := by rw [eW]; go_simp
      have e2 : W.cell? ⟨w.heap.size + 1, 0, none⟩ = some (.slice none 0 0) := by rw [eW]; go_simp
      have e3 : W.cell? ⟨w.heap.size + 1, 1, none⟩ = some (.int .i64 0) := by rw [eW]; go_simp
      have e4 : W.cell? ⟨w.heap.size + 1 + 1, 0, none⟩ = some (.slice none 0 0) := by rw [eW]; go_simp
      have e5 : W.cell? ⟨w.heap.size + 1 + 1, 1, none⟩ = some (.int .i64 0) := by rw [eW]; go_simp
      have e6 : W.cell? ⟨w.heap.size + 1 + 1 + 1, 0, none⟩ = some (.slice none 0 0) := by rw [eW]; go_simp
      have e7 : W.cell? ⟨w.heap.size + 1 + 1 + 1, 1, none⟩ = some (.int .i64 0) := by rw [eW]; go_simp
      have e8 : W.cell? ⟨w.heap.size + 1 + 1 + 1 + 1, 0, none⟩ = some (.slice none 0 0) := by rw [eW]; go_simp
      have e9 : W.cell? ⟨w.heap.size + 1 + 1 + 1 + 1, 1, none⟩ = some (.int .i64 0) := by rw [eW]; go_simp
      have g10 : W.frozen? ⟨w.heap.size + 1, 0, none⟩ = false := by rw [eW]; go_simp
      have g11 : W.frozen? ⟨w.heap.size + 1, 1, none⟩ = false := by rw [eW]; go_simp
      have g20 : W.frozen? ⟨w.heap.size + 1 + 1, 0, none⟩ = false := by rw [eW]; go_simp
      have g21 : W.frozen? ⟨w.heap.size + 1 + 1, 1, none⟩ = false := by rw [eW]; go_simp
      have g30 : W.frozen? ⟨w.heap.size + 1 + 1 + 1, 0, none⟩ = false := by rw [eW]; go_simp
      have g31 : W.frozen? ⟨w.heap.size + 1 + 1 + 1, 1, none⟩ = false := by rw [eW]; go_simp
      have g40 : W.frozen? ⟨w.heap.size + 1 + 1 + 1 + 1, 0, none⟩ = false := by rw [eW]; go_simp
      have g41 : W.frozen? ⟨w.heap.size + 1 + 1 + 1 + 1, 1, none⟩ = false := by rw [eW]; go_simp
      have zW_0 : w.heap.size < W.heap.size := by rw [eW]; first | assumption | omega | (simp <;> omega)
      have zW_1 : w.heap.size + 1 < W.heap.size := by rw [eW]; first | assumption | omega | (simp <;> omega)
      have zW_2 : w.heap.size + 1 + 1 < W.heap.size := by rw [eW]; first | assumption | omega | (simp <;> omega)
      have zW_3 : w.heap.size + 1 + 1 + 1 < W.heap.size := by rw [eW]; first | assumption | omega | (simp <;> omega)
      have zW_4 : w.heap.size + 1 + 1 + 1 + 1 < W.heap.size := by rw [eW]; first | assumption | omega | (simp <;> omega)
      have hx : Ext w W := by rw [eW]; exact extA
      clear eW
      have z0W := (hx.cells _ _ hb9).trans z0
      have z1W := (hx.cells _ _ hb9).trans z1
      have z2W := (hx.cells _ _ hb9).trans z2
      have hWbp : b' < W.heap.size := Nat.lt_of_lt_of_le hb9 hx.size
      go_wp2_with fail
      go_region_law (fail)
      all_goals go_wp2_with fail
      all_goals refine bodyPost_ret (v := .tuple #[.agg #[.slice ap' p'.length cp', .int .i64 d'], .agg #[.slice none 0 0, .int .i64 0]]) (by simp [results, Tryz.results48, go_sem, e2, e3, e4, e5, e6, e7, e8, e9, zW_0, zW_1, zW_2, zW_3, zW_4]) rfl ⟨[.slice ap' p'.length cp', .int .i64 d'], [.slice none 0 0, .int .i64 0], rfl, HM'.out _ extA, rmk_0, extA⟩
end Go.Proofs.YtfgfdohppgoajaaGreat
