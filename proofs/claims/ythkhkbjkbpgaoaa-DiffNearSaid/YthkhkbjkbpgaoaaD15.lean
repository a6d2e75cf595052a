/- DiffNear: the walk. -/
import Derived.Test.YthkhkbjkbpgaoaaD14
set_option linter.unusedVariables false
set_option linter.unusedSimpArgs false
namespace Go.Proofs.Ythkhkbjkbpgaoaa
open Go Go.RowKit Go.BigFrame Cp

/-- what Diff may take -/
def okT (t : Tx) : Prop := t.length ≤ 300 ∧ signsB t = true
theorem diffErr_ok {a b : Tx} (h1 : okT a) (h2 : okT b) : diffErr a b = 0 := by
  obtain ⟨h1, h3⟩ := h1
  obtain ⟨h2, h4⟩ := h2
  rcases diffErr_cases a b with ⟨_, h⟩ | ⟨_, _, h⟩ | ⟨h, _⟩
  · omega
  · rw [h3, h4] at h; simp at h
  · exact h
theorem diffErr_bad {a b : Tx} (h : ¬ (okT a ∧ okT b)) : (diffErr a b != 0) = true := by
  rcases diffErr_cases a b with ⟨h1, _⟩ | ⟨h1, _⟩ | ⟨_, h1, h2, h3, h4⟩
  · rw [h1]; rfl
  · rw [h1]; rfl
  · exact absurd ⟨⟨h1, h3⟩, ⟨h2, h4⟩⟩ h
theorem diffD_bad {a b : Tx} (h : ¬ (okT a ∧ okT b)) : diffD a b = ([], diffErr a b) := by
  have h1 := diffErr_bad h
  unfold diffD
  have h2 : ¬ diffErr a b = 0 := by simpa using h1
  simp [h2]
theorem diffD_ok {a b : Tx} (h1 : okT a) (h2 : okT b) : diffD a b = (rawD a b, 0) := by
  have h := diffErr_ok h1 h2
  unfold diffD
  simp [h]
/-- what Diff gives of good texts -/
def IsNear (n : Nat) (w : World) (e : Ending) (w' : World) : Prop := ∃ v l, e = .returned (.tuple #[v, .int .i64 0]) ∧ RSl REd 4 (fun k => w.heap.size ≤ k) w' v l ∧ Ext w w' ∧ manyE l = n ∧ l.length ≤ 600 ∧ ∀ e ∈ l, e.text.length ≤ 60
theorem near_ok (s u : ByteArray) (w : World) (hs : s.size ≤ maxLen) (hu : u.size ≤ maxLen) (h1 : okT s.data.toList) (h2 : okT u.data.toList) :
    Calls Try.prog 18 #[.string s, .string u] w (IsNear (far s.data.toList u.data.toList) w) := by
  refine (diff_any s u w hs hu).mono ?_
  rintro e w' ⟨v, rfl, hv, hx, hl, ht⟩
  rw [diffD_ok h1 h2] at hv hl ht ⊢
  exact ⟨v, _, rfl, hv, hx, (raw_leads h1.1 h2.1 h1.2 h2.2).2.1, hl, ht⟩
/-- what Diff gives in any case -/
def IsSome (n : Int) (w : World) (e : Ending) (w' : World) : Prop := ∃ v l, e = .returned (.tuple #[v, .int .i64 n]) ∧ RSl REd 4 (fun k => w.heap.size ≤ k) w' v l ∧ Ext w w' ∧ ((n != 0) = true → l.length = 0)
theorem some_any (s u : ByteArray) (w : World) (hs : s.size ≤ maxLen) (hu : u.size ≤ maxLen) :
    Calls Try.prog 18 #[.string s, .string u] w (IsSome (diffErr s.data.toList u.data.toList) w) := by
  refine (diff_any s u w hs hu).mono ?_
  rintro e w' ⟨v, rfl, hv, hx, hl, ht⟩
  have h2 : (diffD s.data.toList u.data.toList).2 = diffErr s.data.toList u.data.toList := by
    unfold diffD; split <;> simp_all
  refine ⟨v, _, by rw [h2], hv, hx, fun h => ?_⟩
  have h3 : ¬ diffErr s.data.toList u.data.toList = 0 := by simpa using h
  unfold diffD
  simp [h3]
theorem near_many {F : Nat → Prop} {W : World} {v : Value} {l : List Edt} {n : Nat} (hm : manyE l = n) (hv : RSl REd 4 F W v l) (h1 : ∀ e ∈ l, e.text.length ≤ 60) (h2 : l.length ≤ 600) :
    Calls Try.prog 20 #[v] W fun e w' => e = .returned (.int .i64 (n : Nat)) ∧ W = w' := hm ▸ many_any hv h1 (by omega)

set_option maxRecDepth 100000 in
set_option maxHeartbeats 4000000 in
theorem diffNear_any {w : World} {v0 v1 v2 : Value} {ta tb tc : Tx} (ha : RTx v0 ta) (hb : RTx v1 tb) (hc : RTx v2 tc) :
    Calls Try.prog 5 #[v0, v1, v2] w fun e w' => e = .returned (.bool true) ∧ Ext w w' := by
  obtain ⟨s, rfl, rfl, hs⟩ := bytes_of ha
  obtain ⟨u, rfl, rfl, hu⟩ := bytes_of hb
  obtain ⟨t, rfl, rfl, ht⟩ := bytes_of hc
  clear ha hb hc
  have HS := Lib.hid (max_of hs)
  have HU := Lib.hid (max_of hu)
  have HT := Lib.hid (max_of ht)
  clear hs hu ht
  by_cases kab : okT s.data.toList ∧ okT u.data.toList
  · obtain ⟨ka, kb⟩ := kab
    have HD1 := Lib.hid (fun (W : World) => near_ok s u W HS.out HU.out ka kb)
    have HD2 := Lib.hid (fun (W : World) => near_ok u s W HU.out HS.out kb ka)
    rw [far_symm u.data.toList s.data.toList] at HD2
    have l1 := far_le s.data.toList u.data.toList
    have t1 : (((far s.data.toList u.data.toList : Nat) : Int) != ((far s.data.toList u.data.toList : Nat) : Int)) = false := by simp
    by_cases kc : okT t.data.toList
    · have HD3 := Lib.hid (fun (W : World) => near_ok s t W HS.out HT.out ka kc)
      have HD4 := Lib.hid (fun (W : World) => near_ok t u W HT.out HU.out kc kb)
      have l2 := far_le s.data.toList t.data.toList
      have l3 := far_le t.data.toList u.data.toList
      have l4 := far_tri s.data.toList u.data.toList t.data.toList
      have l5 := ka.1
      have l6 := kb.1
      have l7 := kc.1
      have t2 : decide (((far s.data.toList u.data.toList : Nat) : Int) ≤ ((far s.data.toList t.data.toList : Nat) : Int) + ((far t.data.toList u.data.toList : Nat) : Int)) = true := by simp; omega
      have hr : (far s.data.toList t.data.toList : Nat) + (far t.data.toList u.data.toList : Nat) ≤ 1200 := by omega
      clear ka kb kc l1 l2 l3 l4 l5 l6 l7
      generalize far s.data.toList u.data.toList = f1 at *
      generalize far s.data.toList t.data.toList = f3 at *
      generalize far t.data.toList u.data.toList = f4 at *
      have wr : IntKind.i64.wrap ((f3 : Int) + (f4 : Int)) = (f3 : Int) + (f4 : Int) := IntWalk.i64_in _ (by omega)
      go_enter Try.func5, Try.ntmps5
      go_wp2_with (first
        | (go_at_call 18; (with_reducible refine (HD1.out _).mono ?_); go_must (rintro e w1 ⟨v1, l1, rfl, hv1, hx1, hm1, hl1, ht1⟩; obtain ⟨a1, n1, c1, rfl⟩ := hv1.slice; obtain rfl : n1 = _ := hv1.len.1; have HV1 := Lib.hid hv1; have HL1 := Lib.hid hl1; have HT1 := Lib.hid ht1; have HM1 := Lib.hid hm1; clear hv1 hl1 ht1 hm1))
        | (go_at_call 18; (with_reducible refine (HD2.out _).mono ?_); go_must (rintro e w2 ⟨v2, l2, rfl, hv2, hx2, hm2, hl2, ht2⟩; obtain ⟨a2, n2, c2, rfl⟩ := hv2.slice; obtain rfl : n2 = _ := hv2.len.1; have HV2 := Lib.hid hv2; have HL2 := Lib.hid hl2; have HT2 := Lib.hid ht2; have HM2 := Lib.hid hm2; clear hv2 hl2 ht2 hm2))
        | (go_at_call 18; (with_reducible refine (HD3.out _).mono ?_); go_must (rintro e w3 ⟨v3, l3, rfl, hv3, hx3, hm3, hl3, ht3⟩; obtain ⟨a3, n3, c3, rfl⟩ := hv3.slice; obtain rfl : n3 = _ := hv3.len.1; have HV3 := Lib.hid hv3; have HL3 := Lib.hid hl3; have HT3 := Lib.hid ht3; have HM3 := Lib.hid hm3; clear hv3 hl3 ht3 hm3))
        | (go_at_call 18; (with_reducible refine (HD4.out _).mono ?_); go_must (rintro e w4 ⟨v4, l4, rfl, hv4, hx4, hm4, hl4, ht4⟩; obtain ⟨a4, n4, c4, rfl⟩ := hv4.slice; obtain rfl : n4 = _ := hv4.len.1; have HV4 := Lib.hid hv4; have HL4 := Lib.hid hl4; have HT4 := Lib.hid ht4; have HM4 := Lib.hid hm4; clear hv4 hl4 ht4 hm4))
        | (go_at_call 20; ((with_reducible refine (near_many HM1.out (HV1.out.ext gEd (by repeat (first | (with_reducible exact ext_refl _) | (with_reducible assumption) | (with_reducible refine ext_drew ?_) | (with_reducible refine ext_drewN ?_ _) | (with_reducible refine ext_alloc ?_ _) | (with_reducible refine ext_set ?_ (by first | omega | (simp <;> omega)) _) | (with_reducible refine ext_trans ?_ (by with_reducible assumption))))) HT1.out HL1.out).mono ?_); rintro e w' ⟨rfl, rfl⟩))
        | (go_at_call 20; ((with_reducible refine (near_many HM2.out (HV2.out.ext gEd (by repeat (first | (with_reducible exact ext_refl _) | (with_reducible assumption) | (with_reducible refine ext_drew ?_) | (with_reducible refine ext_drewN ?_ _) | (with_reducible refine ext_alloc ?_ _) | (with_reducible refine ext_set ?_ (by first | omega | (simp <;> omega)) _) | (with_reducible refine ext_trans ?_ (by with_reducible assumption))))) HT2.out HL2.out).mono ?_); rintro e w' ⟨rfl, rfl⟩))
        | (go_at_call 20; ((with_reducible refine (near_many HM3.out (HV3.out.ext gEd (by repeat (first | (with_reducible exact ext_refl _) | (with_reducible assumption) | (with_reducible refine ext_drew ?_) | (with_reducible refine ext_drewN ?_ _) | (with_reducible refine ext_alloc ?_ _) | (with_reducible refine ext_set ?_ (by first | omega | (simp <;> omega)) _) | (with_reducible refine ext_trans ?_ (by with_reducible assumption))))) HT3.out HL3.out).mono ?_); rintro e w' ⟨rfl, rfl⟩))
        | (go_at_call 20; ((with_reducible refine (near_many HM4.out (HV4.out.ext gEd (by repeat (first | (with_reducible exact ext_refl _) | (with_reducible assumption) | (with_reducible refine ext_drew ?_) | (with_reducible refine ext_drewN ?_ _) | (with_reducible refine ext_alloc ?_ _) | (with_reducible refine ext_set ?_ (by first | omega | (simp <;> omega)) _) | (with_reducible refine ext_trans ?_ (by with_reducible assumption))))) HT4.out HL4.out).mono ?_); rintro e w' ⟨rfl, rfl⟩))
        | (go_at_call 17; go_must ((with_reducible refine (diffBegun_any _).mono ?_); rintro e wb ⟨rfl, hxb⟩)))
      go_ret
      exact ⟨rfl, (by repeat (first | (with_reducible exact ext_refl _) | (with_reducible assumption) | (with_reducible refine ext_drew ?_) | (with_reducible refine ext_drewN ?_ _) | (with_reducible refine ext_alloc ?_ _) | (with_reducible refine ext_set ?_ (by first | omega | (simp <;> omega)) _) | (with_reducible refine ext_trans ?_ (by with_reducible assumption))))⟩
    · have HD3 := Lib.hid (fun (W : World) => some_any s t W HS.out HT.out)
      have HD4 := Lib.hid (fun (W : World) => some_any t u W HT.out HU.out)
      have t3 := diffErr_bad (a := s.data.toList) (b := t.data.toList) (fun h => kc h.2)
      clear ka kb kc l1
      generalize far s.data.toList u.data.toList = f1 at *
      generalize diffErr s.data.toList t.data.toList = e3 at *
      generalize diffErr t.data.toList u.data.toList = e4 at *
      go_enter Try.func5, Try.ntmps5
      go_wp2_with (first
        | (go_at_call 18; (with_reducible refine (HD1.out _).mono ?_); go_must (rintro e w1 ⟨v1, l1, rfl, hv1, hx1, hm1, hl1, ht1⟩; obtain ⟨a1, n1, c1, rfl⟩ := hv1.slice; obtain rfl : n1 = _ := hv1.len.1; have HV1 := Lib.hid hv1; have HL1 := Lib.hid hl1; have HT1 := Lib.hid ht1; have HM1 := Lib.hid hm1; clear hv1 hl1 ht1 hm1))
        | (go_at_call 18; (with_reducible refine (HD2.out _).mono ?_); go_must (rintro e w2 ⟨v2, l2, rfl, hv2, hx2, hm2, hl2, ht2⟩; obtain ⟨a2, n2, c2, rfl⟩ := hv2.slice; obtain rfl : n2 = _ := hv2.len.1; have HV2 := Lib.hid hv2; have HL2 := Lib.hid hl2; have HT2 := Lib.hid ht2; have HM2 := Lib.hid hm2; clear hv2 hl2 ht2 hm2))
        | (go_at_call 18; (with_reducible refine (HD3.out _).mono ?_); go_must (rintro e w3 ⟨v3, l3, rfl, hv3, hx3, hm3⟩; obtain ⟨a3, n3, c3, rfl⟩ := hv3.slice; obtain rfl : n3 = _ := hv3.len.1; have HV3 := Lib.hid hv3; (try (have hn3 := hm3 (by assumption))); have HM3 := Lib.hid hm3; clear hv3 hm3))
        | (go_at_call 18; (with_reducible refine (HD4.out _).mono ?_); go_must (rintro e w4 ⟨v4, l4, rfl, hv4, hx4, hm4⟩; obtain ⟨a4, n4, c4, rfl⟩ := hv4.slice; obtain rfl : n4 = _ := hv4.len.1; have HV4 := Lib.hid hv4; (try (have hn4 := hm4 (by assumption))); have HM4 := Lib.hid hm4; clear hv4 hm4))
        | (go_at_call 20; ((with_reducible refine (near_many HM1.out (HV1.out.ext gEd (by repeat (first | (with_reducible exact ext_refl _) | (with_reducible assumption) | (with_reducible refine ext_drew ?_) | (with_reducible refine ext_drewN ?_ _) | (with_reducible refine ext_alloc ?_ _) | (with_reducible refine ext_set ?_ (by first | omega | (simp <;> omega)) _) | (with_reducible refine ext_trans ?_ (by with_reducible assumption))))) HT1.out HL1.out).mono ?_); rintro e w' ⟨rfl, rfl⟩))
        | (go_at_call 20; ((with_reducible refine (near_many HM2.out (HV2.out.ext gEd (by repeat (first | (with_reducible exact ext_refl _) | (with_reducible assumption) | (with_reducible refine ext_drew ?_) | (with_reducible refine ext_drewN ?_ _) | (with_reducible refine ext_alloc ?_ _) | (with_reducible refine ext_set ?_ (by first | omega | (simp <;> omega)) _) | (with_reducible refine ext_trans ?_ (by with_reducible assumption))))) HT2.out HL2.out).mono ?_); rintro e w' ⟨rfl, rfl⟩))
        | (go_at_call 17; go_must ((with_reducible refine (diffBegun_any _).mono ?_); rintro e wb ⟨rfl, hxb⟩)))
      go_ret
      exact ⟨rfl, (by repeat (first | (with_reducible exact ext_refl _) | (with_reducible assumption) | (with_reducible refine ext_drew ?_) | (with_reducible refine ext_drewN ?_ _) | (with_reducible refine ext_alloc ?_ _) | (with_reducible refine ext_set ?_ (by first | omega | (simp <;> omega)) _) | (with_reducible refine ext_trans ?_ (by with_reducible assumption))))⟩
  · have HD1 := Lib.hid (fun (W : World) => some_any s u W HS.out HU.out)
    have HD2 := Lib.hid (fun (W : World) => some_any u s W HU.out HS.out)
    have t3 := diffErr_bad kab
    clear kab
    generalize diffErr s.data.toList u.data.toList = e1 at *
    generalize diffErr u.data.toList s.data.toList = e2 at *
    go_enter Try.func5, Try.ntmps5
    go_wp2_with (first
      | (go_at_call 18; (with_reducible refine (HD1.out _).mono ?_); go_must (rintro e w1 ⟨v1, l1, rfl, hv1, hx1, hm1⟩; obtain ⟨a1, n1, c1, rfl⟩ := hv1.slice; obtain rfl : n1 = _ := hv1.len.1; have HV1 := Lib.hid hv1; (try (have hn1 := hm1 (by assumption))); have HM1 := Lib.hid hm1; clear hv1 hm1))
      | (go_at_call 18; (with_reducible refine (HD2.out _).mono ?_); go_must (rintro e w2 ⟨v2, l2, rfl, hv2, hx2, hm2⟩; obtain ⟨a2, n2, c2, rfl⟩ := hv2.slice; obtain rfl : n2 = _ := hv2.len.1; have HV2 := Lib.hid hv2; (try (have hn2 := hm2 (by assumption))); have HM2 := Lib.hid hm2; clear hv2 hm2))
      | (go_at_call 17; go_must ((with_reducible refine (diffBegun_any _).mono ?_); rintro e wb ⟨rfl, hxb⟩)))
    go_ret
    exact ⟨rfl, (by repeat (first | (with_reducible exact ext_refl _) | (with_reducible assumption) | (with_reducible refine ext_drew ?_) | (with_reducible refine ext_drewN ?_ _) | (with_reducible refine ext_alloc ?_ _) | (with_reducible refine ext_set ?_ (by first | omega | (simp <;> omega)) _) | (with_reducible refine ext_trans ?_ (by with_reducible assumption))))⟩
end Go.Proofs.Ythkhkbjkbpgaoaa
