/- The laws of diffs: the walks. -/
import Derived.Test.YthkhkbjkbpgaoaaD12
set_option linter.unusedVariables false
set_option linter.unusedSimpArgs false
namespace Go.Proofs.Ythkhkbjkbpgaoaa
open Go Go.RowKit Go.BigFrame Cp

/-- the edits that must be in any case -/
def IsBegunD (w : World) (e : Ending) (w' : World) : Prop := ∃ v l, e = .returned (.tuple #[v, .int .i64 0]) ∧ RSl REd 4 (fun k => w.heap.size ≤ k) w' v l ∧ Ext w w' ∧ playE [104, 97, 116] l = ([104, 105, 116], 0) ∧ manyE l = 2 ∧ l.length ≤ 600 ∧ ∀ e ∈ l, e.text.length ≤ 60
theorem begun_diff (w : World) : Calls Try.prog 18 #[.string ⟨#[104, 97, 116]⟩, .string ⟨#[104, 105, 116]⟩] w (IsBegunD w) := by
  refine (diff_any ⟨#[104, 97, 116]⟩ ⟨#[104, 105, 116]⟩ w (by decide) (by decide)).mono ?_
  rintro e w' ⟨v, rfl, hv, hx, hl, ht⟩
  have h1 : diffD (⟨#[104, 97, 116]⟩ : ByteArray).data.toList (⟨#[104, 105, 116]⟩ : ByteArray).data.toList = (rawD [104, 97, 116] [104, 105, 116], 0) := rfl
  rw [h1] at hv hl ht ⊢
  have h2 := raw_leads (a := [104, 97, 116]) (b := [104, 105, 116]) (by simp) (by simp) (by decide) (by decide)
  have h3 : far [104, 97, 116] [104, 105, 116] = 2 := by simp [far_cons, far_nil_l, far_nil_r]
  exact ⟨v, _, rfl, hv, hx, h2.1, by rw [h2.2.1, h3]; rfl, hl, ht⟩
theorem begun_play {F : Nat → Prop} {w : World} {v : Value} {l : List Edt} (hl : RSl REd 4 F w v l) (h : playE [104, 97, 116] l = ([104, 105, 116], 0)) :
    Calls Try.prog 15 #[.string ⟨#[104, 97, 116]⟩, v] w (IsTxE [104, 105, 116] 0 w) := by
  have h1 := play_any (v0 := .string ⟨#[104, 97, 116]⟩) (s := [104, 97, 116]) ⟨rfl, by simp⟩ hl
  rw [h] at h1
  exact h1
theorem begun_many {F : Nat → Prop} {w : World} {v : Value} {l : List Edt} (hl : RSl REd 4 F w v l) (h : manyE l = 2) (h1 : ∀ e ∈ l, e.text.length ≤ 60) (h2 : l.length ≤ 600) :
    Calls Try.prog 20 #[v] w fun e w' => e = .returned (.int .i64 2) ∧ w = w' := by
  have h3 := many_any hl h1 (by omega)
  rw [h] at h3
  exact h3
set_option maxRecDepth 100000 in
set_option maxHeartbeats 4000000 in
theorem diffBegun_any (w : World) : Calls Try.prog 17 #[] w fun e w' => e = .returned (.bool true) ∧ Ext w w' := by
  go_enter Try.func17, Try.ntmps17
  go_wp2_with (first
    | (go_at_call 18; go_must ((with_reducible refine (begun_diff _).mono ?_); rintro e w1 ⟨v1, l1, rfl, hv1, hx1, hp1, hm1, hl1, ht1⟩; obtain ⟨a1, n1, c1, rfl⟩ := hv1.slice; have HV := Lib.hid hv1; have HPL := Lib.hid hp1; have HM := Lib.hid hm1; have HL := Lib.hid hl1; have HT := Lib.hid ht1; clear hv1 hp1 hm1 hl1 ht1))
    | (go_at_call 15; go_must ((with_reducible refine (begun_play (HV.out.ext gEd (by repeat (first | (with_reducible exact ext_refl _) | (with_reducible assumption) | (with_reducible refine ext_drew ?_) | (with_reducible refine ext_drewN ?_ _) | (with_reducible refine ext_alloc ?_ _) | (with_reducible refine ext_set ?_ (by first | omega | (simp <;> omega)) _) | (with_reducible refine ext_trans ?_ (by with_reducible assumption))))) HPL.out).mono ?_); rintro e w2 ⟨v2, rfl, ⟨rfl, _⟩, hx2⟩))
    | (go_at_call 20; go_must ((with_reducible refine (begun_many (HV.out.ext gEd (by repeat (first | (with_reducible exact ext_refl _) | (with_reducible assumption) | (with_reducible refine ext_drew ?_) | (with_reducible refine ext_drewN ?_ _) | (with_reducible refine ext_alloc ?_ _) | (with_reducible refine ext_set ?_ (by first | omega | (simp <;> omega)) _) | (with_reducible refine ext_trans ?_ (by with_reducible assumption))))) HM.out HT.out HL.out).mono ?_); rintro e w3 ⟨rfl, rfl⟩)))
  go_ret
  exact ⟨rfl, (by repeat (first | (with_reducible exact ext_refl _) | (with_reducible assumption) | (with_reducible refine ext_drew ?_) | (with_reducible refine ext_drewN ?_ _) | (with_reducible refine ext_alloc ?_ _) | (with_reducible refine ext_set ?_ (by first | omega | (simp <;> omega)) _) | (with_reducible refine ext_trans ?_ (by with_reducible assumption))))⟩

set_option maxRecDepth 100000 in
set_option maxHeartbeats 4000000 in
theorem diffPlays_any {F : Nat → Prop} {w : World} {v0 v : Value} {s : Tx} {l : List Edt} (hs : RTx v0 s) (hl : RSl REd 4 F w v l) :
    Calls Try.prog 3 #[v0, v] w fun e w' => e = .returned (.bool true) ∧ Ext w w' := by
  have HP := Lib.hid (fun (W : World) (hx : Ext w W) => play_any hs (hl.ext gEd hx))
  have HR := Lib.hid (fun (W : World) (hx : Ext w W) => playOf_any hs (hl.ext gEd hx))
  obtain ⟨a, n, c, rfl⟩ := hl.slice
  obtain ⟨rfl, hs⟩ := hs
  generalize playE s l = r at HP HR
  obtain ⟨t, er⟩ := r
  simp only at HP HR
  clear hl hs
  go_enter Try.func3, Try.ntmps3
  go_wp2_with (first
    | (go_at_call 15; go_must ((with_reducible refine (HP.out _ (by repeat (first | (with_reducible exact ext_refl _) | (with_reducible assumption) | (with_reducible refine ext_drew ?_) | (with_reducible refine ext_drewN ?_ _) | (with_reducible refine ext_alloc ?_ _) | (with_reducible refine ext_set ?_ (by first | omega | (simp <;> omega)) _) | (with_reducible refine ext_trans ?_ (by with_reducible assumption))))).mono ?_); rintro e w1 ⟨v1, rfl, ⟨rfl, _⟩, hx1⟩))
    | (go_at_call 16; go_must ((with_reducible refine (HR.out _ (by repeat (first | (with_reducible exact ext_refl _) | (with_reducible assumption) | (with_reducible refine ext_drew ?_) | (with_reducible refine ext_drewN ?_ _) | (with_reducible refine ext_alloc ?_ _) | (with_reducible refine ext_set ?_ (by first | omega | (simp <;> omega)) _) | (with_reducible refine ext_trans ?_ (by with_reducible assumption))))).mono ?_); rintro e w2 ⟨v2, rfl, ⟨rfl, _⟩, hx2⟩))
    | (go_at_call 17; go_must ((with_reducible refine (diffBegun_any _).mono ?_); rintro e w3 ⟨rfl, hx3⟩)))
  go_ret
  exact ⟨rfl, (by repeat (first | (with_reducible exact ext_refl _) | (with_reducible assumption) | (with_reducible refine ext_drew ?_) | (with_reducible refine ext_drewN ?_ _) | (with_reducible refine ext_alloc ?_ _) | (with_reducible refine ext_set ?_ (by first | omega | (simp <;> omega)) _) | (with_reducible refine ext_trans ?_ (by with_reducible assumption))))⟩
end Go.Proofs.Ythkhkbjkbpgaoaa
