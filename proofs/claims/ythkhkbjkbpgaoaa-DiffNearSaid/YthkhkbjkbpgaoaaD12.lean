/- Diff: the walk. -/
import Derived.Test.YthkhkbjkbpgaoaaD11
set_option linter.unusedVariables false
set_option linter.unusedSimpArgs false
namespace Go.Proofs.Ythkhkbjkbpgaoaa
open Go Go.RowKit Go.BigFrame Cp

/-- edits in new memory, and an errno -/
def IsEdsE (l : List Edt) (er : Int) (w : World) (e : Ending) (w' : World) : Prop := ∃ v, e = .returned (.tuple #[v, .int .i64 er]) ∧ RSl REd 4 (fun k => w.heap.size ≤ k) w' v l ∧ Ext w w' ∧ l.length ≤ 600 ∧ ∀ e ∈ l, e.text.length ≤ 60
theorem eds_err {er : Int} {w w' : World} (hx : Ext w w') : IsEdsE [] er w (.returned (.tuple #[.slice none 0 0, .int .i64 er])) w' := ⟨_, rfl, RSl.nil_ (Nat.zero_le _), hx, by simp, by simp⟩

set_option maxRecDepth 100000 in
set_option maxHeartbeats 4000000 in
theorem diff_any (s u : ByteArray) (w : World) (hs : s.size ≤ maxLen) (hu : u.size ≤ maxLen) :
    Calls Try.prog 18 #[.string s, .string u] w (IsEdsE (diffD s.data.toList u.data.toList).1 (diffD s.data.toList u.data.toList).2 w) := by
  have HS := Lib.hid hs
  have HU := Lib.hid hu
  have HSL := Lib.hid (show s.data.toList.length = s.size by simp)
  have HUL := Lib.hid (show u.data.toList.length = u.size by simp)
  unfold maxLen at hs hu
  by_cases h1 : 300 < s.size
  · have e1 : diffErr s.data.toList u.data.toList = 2 := by unfold diffErr; rw [if_pos (.inl (by rw [HSL.out]; exact h1))]
    have e2 : diffD s.data.toList u.data.toList = ([], 2) := by unfold diffD; rw [e1]; rfl
    rw [e2]
    clear e1 e2
    go_enter Try.func18, Try.ntmps18
    go_wp2_with fail
    refine wp_loop_rounds 3 ?_
    rw [rounds_succ]
    go_wp2_with fail
    go_ret2
    exact eds_err (by repeat (first | (with_reducible exact ext_refl _) | (with_reducible assumption) | (with_reducible refine ext_drew ?_) | (with_reducible refine ext_drewN ?_ _) | (with_reducible refine ext_alloc ?_ _) | (with_reducible refine ext_set ?_ (by first | omega | (simp <;> omega)) _) | (with_reducible refine ext_trans ?_ (by with_reducible assumption))))
  by_cases h2 : 300 < u.size
  · have e1 : diffErr s.data.toList u.data.toList = 2 := by unfold diffErr; rw [if_pos (.inr (by rw [HUL.out]; exact h2))]
    have e2 : diffD s.data.toList u.data.toList = ([], 2) := by unfold diffD; rw [e1]; rfl
    rw [e2]
    clear e1 e2
    go_enter Try.func18, Try.ntmps18
    go_wp2_with fail
    refine wp_loop_rounds 3 ?_
    rw [rounds_succ]
    go_wp2_with fail
    rw [rounds_succ]
    go_wp2_with fail
    go_ret2
    exact eds_err (by repeat (first | (with_reducible exact ext_refl _) | (with_reducible assumption) | (with_reducible refine ext_drew ?_) | (with_reducible refine ext_drewN ?_ _) | (with_reducible refine ext_alloc ?_ _) | (with_reducible refine ext_set ?_ (by first | omega | (simp <;> omega)) _) | (with_reducible refine ext_trans ?_ (by with_reducible assumption))))
  have hn : ¬ (300 < s.data.toList.length ∨ 300 < u.data.toList.length) := by rw [HSL.out, HUL.out]; omega
  have HN := Lib.hid hn
  clear hn
  cases g1 : signsB s.data.toList with
  | false =>
    have e1 : diffErr s.data.toList u.data.toList = 3 := by unfold diffErr; rw [if_neg HN.out, if_pos (.inl g1)]
    have e2 : diffD s.data.toList u.data.toList = ([], 3) := by unfold diffD; rw [e1]; rfl
    rw [e2]
    clear e1 e2
    go_enter Try.func18, Try.ntmps18
    go_wp2_with fail
    refine wp_loop_rounds 3 ?_
    rw [rounds_succ]
    go_wp2_with (first | (go_at_call 53; ((with_reducible refine (signs_any _ _ (by first | exact HS.out | exact HU.out)).mono ?_); rintro e w' ⟨rfl, rfl⟩)))
    rw [rounds_succ]
    go_wp2_with (first | (go_at_call 53; ((with_reducible refine (signs_any _ _ (by first | exact HS.out | exact HU.out)).mono ?_); rintro e w' ⟨rfl, rfl⟩)))
    rw [rounds_succ]
    go_wp2_with (first | (go_at_call 53; ((with_reducible refine (signs_any _ _ (by first | exact HS.out | exact HU.out)).mono ?_); rintro e w' ⟨rfl, rfl⟩)))
    go_ret2
    exact eds_err (by repeat (first | (with_reducible exact ext_refl _) | (with_reducible assumption) | (with_reducible refine ext_drew ?_) | (with_reducible refine ext_drewN ?_ _) | (with_reducible refine ext_alloc ?_ _) | (with_reducible refine ext_set ?_ (by first | omega | (simp <;> omega)) _) | (with_reducible refine ext_trans ?_ (by with_reducible assumption))))
  | true =>
    cases g2 : signsB u.data.toList with
    | false =>
      have e1 : diffErr s.data.toList u.data.toList = 3 := by unfold diffErr; rw [if_neg HN.out, if_pos (.inr g2)]
      have e2 : diffD s.data.toList u.data.toList = ([], 3) := by unfold diffD; rw [e1]; rfl
      rw [e2]
      clear e1 e2
      go_enter Try.func18, Try.ntmps18
      go_wp2_with fail
      refine wp_loop_rounds 3 ?_
      rw [rounds_succ]
      go_wp2_with (first | (go_at_call 53; ((with_reducible refine (signs_any _ _ (by first | exact HS.out | exact HU.out)).mono ?_); rintro e w' ⟨rfl, rfl⟩)))
      rw [rounds_succ]
      go_wp2_with (first | (go_at_call 53; ((with_reducible refine (signs_any _ _ (by first | exact HS.out | exact HU.out)).mono ?_); rintro e w' ⟨rfl, rfl⟩)))
      rw [rounds_succ]
      go_wp2_with (first | (go_at_call 53; ((with_reducible refine (signs_any _ _ (by first | exact HS.out | exact HU.out)).mono ?_); rintro e w' ⟨rfl, rfl⟩)))
      go_ret2
      exact eds_err (by repeat (first | (with_reducible exact ext_refl _) | (with_reducible assumption) | (with_reducible refine ext_drew ?_) | (with_reducible refine ext_drewN ?_ _) | (with_reducible refine ext_alloc ?_ _) | (with_reducible refine ext_set ?_ (by first | omega | (simp <;> omega)) _) | (with_reducible refine ext_trans ?_ (by with_reducible assumption))))
    | true =>
      have e1 : diffErr s.data.toList u.data.toList = 0 := by unfold diffErr; rw [if_neg HN.out, if_neg (by rw [g1, g2]; simp)]
      have e2 : diffD s.data.toList u.data.toList = (rawD s.data.toList u.data.toList, 0) := by unfold diffD; rw [e1]; rfl
      have HG2 := Lib.hid g2
      rw [e2]
      clear e1 e2
      go_enter Try.func18, Try.ntmps18
      go_wp2_with fail
      refine wp_loop_rounds 3 ?_
      rw [rounds_succ]
      go_wp2_with (first | (go_at_call 53; ((with_reducible refine (signs_any _ _ (by first | exact HS.out | exact HU.out)).mono ?_); rintro e w' ⟨rfl, rfl⟩)) | (go_at_call 54; ((with_reducible refine (raw_any s u _ (by omega) (by omega) HG2.out).mono ?_); rintro e w1 ⟨v1, rfl, hv1, hx1, hl1, ht1⟩; obtain ⟨a1, n1, c1, rfl⟩ := hv1.slice; have HV1 := Lib.hid hv1; have HL1 := Lib.hid hl1; have HT1 := Lib.hid ht1; have HX1 := Lib.hid hx1; have hz1 := hx1.size; (try simp at hz1); clear hv1 hl1 ht1 hx1)))
      rw [rounds_succ]
      go_wp2_with (first | (go_at_call 53; ((with_reducible refine (signs_any _ _ (by first | exact HS.out | exact HU.out)).mono ?_); rintro e w' ⟨rfl, rfl⟩)) | (go_at_call 54; ((with_reducible refine (raw_any s u _ (by omega) (by omega) HG2.out).mono ?_); rintro e w1 ⟨v1, rfl, hv1, hx1, hl1, ht1⟩; obtain ⟨a1, n1, c1, rfl⟩ := hv1.slice; have HV1 := Lib.hid hv1; have HL1 := Lib.hid hl1; have HT1 := Lib.hid ht1; have HX1 := Lib.hid hx1; have hz1 := hx1.size; (try simp at hz1); clear hv1 hl1 ht1 hx1)))
      rw [rounds_succ]
      go_wp2_with (first | (go_at_call 53; ((with_reducible refine (signs_any _ _ (by first | exact HS.out | exact HU.out)).mono ?_); rintro e w' ⟨rfl, rfl⟩)) | (go_at_call 54; ((with_reducible refine (raw_any s u _ (by omega) (by omega) HG2.out).mono ?_); rintro e w1 ⟨v1, rfl, hv1, hx1, hl1, ht1⟩; obtain ⟨a1, n1, c1, rfl⟩ := hv1.slice; have HV1 := Lib.hid hv1; have HL1 := Lib.hid hl1; have HT1 := Lib.hid ht1; have HX1 := Lib.hid hx1; have hz1 := hx1.size; (try simp at hz1); clear hv1 hl1 ht1 hx1)))
      go_ret2
      exact ⟨_, rfl, HV1.out.more gEd (fun k hk _ => by simp at hk; omega), ext_trans (by repeat (first | (with_reducible exact ext_refl _) | (with_reducible assumption) | (with_reducible refine ext_drew ?_) | (with_reducible refine ext_drewN ?_ _) | (with_reducible refine ext_alloc ?_ _) | (with_reducible refine ext_set ?_ (by first | omega | (simp <;> omega)) _) | (with_reducible refine ext_trans ?_ (by with_reducible assumption)))) HX1.out, HL1.out, HT1.out⟩
end Go.Proofs.Ythkhkbjkbpgaoaa
