/- Is a mark in a list of marks, by the document. -/
import Derived.Test.YtghfmgndddjofaaA3
import Derived.Test.YtghfmgndddjofaaA4
set_option linter.unusedVariables false
set_option linter.unusedSimpArgs false
namespace Go.Proofs.Ytghfmgndddjofaa
open Go Go.RowKit Go.BigFrame Cp

set_option maxRecDepth 100000 in
set_option maxHeartbeats 4000000 in
theorem hasGone_any {F G : Nat → Prop} {w : World} {v : Value} {ds : List Value} {l : List Mk} {m : Mk} (hl : RSl RMk 2 F w v l) (hm : RMk G w ds m) :
    Calls Try.prog 49 #[v, .agg ds.toArray] w fun e w' => e = .returned (.bool (hasG l m)) ∧ Ext w w' := by
  obtain ⟨a0, n0, c0, rfl⟩ := hl.slice
  obtain ⟨rfl, hn1, hn2⟩ := hl.len
  unfold maxLen at hn2
  have q1 : l.length ≤ 9223372036854775807 := by omega
  clear hn1 hn2
  have HMX := Lib.hid (fun (W : World) (hx : Ext w W) => gMk.ext hm hx)
  obtain ⟨u, rfl, hm, _⟩ := hm
  obtain ⟨m, d⟩ := m
  simp only at hm HMX ⊢
  obtain ⟨a2, n2, c2, rfl⟩ := hm.slice
  have HL := Lib.hid hl
  clear hl hm
  obtain ⟨pr, hpr⟩ : ∃ pr : Mk → Bool, pr = fun a => decide (ordM a (m, d) = 0) := ⟨_, rfl⟩
  have hM : hasG l (m, d) = l.any pr := by rw [hpr]; rfl
  rw [hM]
  have HPR := Lib.hid (fun (a : Mk) => (show (ordM a (m, d) == 0) = pr a by rw [hpr]; rfl))
  clear hM hpr
  go_enter Try.func49, Try.ntmps49
  go_wp2
  go_loopw [5] (fun iv wr => ∃ k : Nat, k ≤ l.length ∧ iv = .int .i64 k ∧ Hid ((l.take k).any pr = false) ∧ Ext (w.alloc (.cells #[.slice a2 n2 c2, .int .i64 d] 75)) wr) (fun iv _ => l.length - (intOf iv).toNat)
  case atStart => exact ⟨0, Nat.zero_le _, rfl, Lib.hid (by simp), ext_refl _⟩
  case round =>
    obtain ⟨k, hk, rfl, HI, hx⟩ := hrel
    have hw : Ext w wr := ext_trans (ext_alloc (ext_refl _) _) hx
    have z1 : wr.cell? ⟨w.heap.size, 0, none⟩ = some (.slice a2 n2 c2) := (hx.cells _ _ (by simp <;> omega)).trans (by go_simp)
    have z2 : wr.cell? ⟨w.heap.size, 1, none⟩ = some (.int .i64 d) := (hx.cells _ _ (by simp <;> omega)).trans (by go_simp)
    have hsz := hx.size
    (try simp at hsz)
    have hbz : w.heap.size < wr.heap.size := by omega
    have HX := Lib.hid hx
    have HW := Lib.hid hw
    clear hx hw
    by_cases hlt : k < l.length
    · obtain ⟨b, o, p, c, ap, cp, rfl, hb, ek, ick, hpp, y0, y1⟩ := mark_at (HL.out.ext gMk HW.out) hlt
      have HCM := Lib.hid (fun (W : World) (hx : Ext wr W) => same_any (rmk_of' (hpp.ext gStp hx) ick) (HMX.out W (ext_trans HW.out hx)))
      rw [HPR.out (p, c)] at HCM
      have HA := Lib.hid (anyp_step (p := pr) ek)
      clear hpp ick ek
      cases g : pr (p, c) with
      | true =>
        rw [g] at HCM
        have HC := Lib.hid (anyp_of_take (p := pr) (l := l) (k := k + 1) (by rw [HA.out, HI.out, g]; rfl))
        go_wp2_with fail
        refine wp_name (fun W2 eW2 => ?_)
        have e0 : W2.cell? ⟨w.heap.size, 0, none⟩ = some (.slice a2 n2 c2) := by rw [eW2]; go_simp
        have e1 : W2.cell? ⟨w.heap.size, 1, none⟩ = some (.int .i64 d) := by rw [eW2]; go_simp
        have e2 : W2.cell? ⟨b, o + k * 2, none⟩ = some (.slice ap p.length cp) := by rw [eW2]; go_simp
        have e3 : W2.cell? ⟨b, o + k * 2 + 1, none⟩ = some (.int .i64 c) := by rw [eW2]; go_simp
        have zW2_0 : b < W2.heap.size := by rw [eW2]; first | assumption | omega | (simp <;> omega)
        have zW2_1 : w.heap.size < W2.heap.size := by rw [eW2]; first | assumption | omega | (simp <;> omega)
        have hw2 : Ext wr W2 := by rw [eW2]; exact (by repeat (first | (with_reducible exact ext_refl _) | (with_reducible assumption) | (with_reducible refine ext_drew ?_) | (with_reducible refine ext_drewN ?_ _) | (with_reducible refine ext_alloc ?_ _) | (with_reducible refine ext_set ?_ (by first | omega | (simp <;> omega)) _) | (with_reducible refine ext_trans ?_ (by with_reducible assumption))))
        clear eW2
        refine wp_region_later fol (by kernel_rfl) (fun hlater => ?_)
        repeat (go_big_quiet_step ((first
            | (go_at_call 98; (with_reducible exact later_of (HCM.out _ (ext_trans hw2 (Later.ext _))))))))
        refine wpQuiet_nil ?_
        rintro w3 ⟨⟨w3x, hx3⟩, rfl⟩
        clear hlater
        go_wp2_with fail
        go_ret
        exact ⟨rb HC.out.symm, ext_trans HW.out (ext_trans hw2 hx3)⟩
      | false =>
        rw [g] at HCM
        have HD := Lib.hid (show (l.take (k + 1)).any pr = false by rw [HA.out, HI.out, g]; rfl)
        go_wp2_with fail
        refine wp_name (fun W2 eW2 => ?_)
        have e0 : W2.cell? ⟨w.heap.size, 0, none⟩ = some (.slice a2 n2 c2) := by rw [eW2]; go_simp
        have e1 : W2.cell? ⟨w.heap.size, 1, none⟩ = some (.int .i64 d) := by rw [eW2]; go_simp
        have e2 : W2.cell? ⟨b, o + k * 2, none⟩ = some (.slice ap p.length cp) := by rw [eW2]; go_simp
        have e3 : W2.cell? ⟨b, o + k * 2 + 1, none⟩ = some (.int .i64 c) := by rw [eW2]; go_simp
        have zW2_0 : b < W2.heap.size := by rw [eW2]; first | assumption | omega | (simp <;> omega)
        have zW2_1 : w.heap.size < W2.heap.size := by rw [eW2]; first | assumption | omega | (simp <;> omega)
        have hw2 : Ext wr W2 := by rw [eW2]; exact (by repeat (first | (with_reducible exact ext_refl _) | (with_reducible assumption) | (with_reducible refine ext_drew ?_) | (with_reducible refine ext_drewN ?_ _) | (with_reducible refine ext_alloc ?_ _) | (with_reducible refine ext_set ?_ (by first | omega | (simp <;> omega)) _) | (with_reducible refine ext_trans ?_ (by with_reducible assumption))))
        clear eW2
        refine wp_region_later fol (by kernel_rfl) (fun hlater => ?_)
        repeat (go_big_quiet_step ((first
            | (go_at_call 98; (with_reducible exact later_of (HCM.out _ (ext_trans hw2 (Later.ext _))))))))
        refine wpQuiet_nil ?_
        rintro w3 ⟨⟨w3x, hx3⟩, rfl⟩
        clear hlater
        go_wp2_with fail
        go_roundw
        case rel => exact ⟨k + 1, by omega, by go_num, HD, ext_trans HX.out (ext_trans hw2 hx3)⟩
        case measure => simp [intOf]; omega
    · have hkl : k = l.length := by omega
      subst hkl
      have hi := HI.out
      rw [List.take_of_length_le (Nat.le_refl _)] at hi
      go_wp2
      go_ret
      exact ⟨rb hi.symm, HW.out⟩
end Go.Proofs.Ytghfmgndddjofaa
