/- Leads and near: the walks. -/
import Derived.Test.YthkhkbjkbpgaoaaD13
set_option linter.unusedVariables false
set_option linter.unusedSimpArgs false
namespace Go.Proofs.Ythkhkbjkbpgaoaa
open Go Go.RowKit Go.BigFrame Cp

theorem bytes_of {v : Value} {t : Tx} (h : RTx v t) : ∃ s : ByteArray, v = .string s ∧ t = s.data.toList ∧ s.size ≤ 140737488351232 := by
  obtain ⟨rfl, h⟩ := h
  exact ⟨⟨t.toArray⟩, rfl, by simp, by simpa [ByteArray.size] using h⟩
theorem max_of {n : Nat} (h : n ≤ 140737488351232) : n ≤ maxLen := by unfold maxLen; omega
theorem diffErr_cases (a b : Tx) : (diffErr a b = 2 ∧ (300 < a.length ∨ 300 < b.length)) ∨ (diffErr a b = 3 ∧ ¬ (300 < a.length ∨ 300 < b.length) ∧ (signsB a = false ∨ signsB b = false)) ∨ (diffErr a b = 0 ∧ a.length ≤ 300 ∧ b.length ≤ 300 ∧ signsB a = true ∧ signsB b = true) := by
  unfold diffErr
  by_cases h1 : 300 < a.length ∨ 300 < b.length
  · exact .inl ⟨if_pos h1, h1⟩
  · rw [if_neg h1]
    by_cases h2 : signsB a = false ∨ signsB b = false
    · exact .inr (.inl ⟨if_pos h2, h1, h2⟩)
    · rw [if_neg h2]
      refine .inr (.inr ⟨rfl, by omega, by omega, ?_, ?_⟩)
      · cases h : signsB a with
        | true => rfl
        | false => exact absurd (.inl h) h2
      · cases h : signsB b with
        | true => rfl
        | false => exact absurd (.inr h) h2

set_option maxRecDepth 100000 in
set_option maxHeartbeats 4000000 in
theorem diffLeads_any {w : World} {v0 v1 : Value} {ta tb : Tx} (ha : RTx v0 ta) (hb : RTx v1 tb) :
    Calls Try.prog 4 #[v0, v1] w fun e w' => e = .returned (.bool true) ∧ Ext w w' := by
  obtain ⟨s, rfl, rfl, hs⟩ := bytes_of ha
  obtain ⟨u, rfl, rfl, hu⟩ := bytes_of hb
  clear ha hb
  have HS := Lib.hid (max_of hs)
  have HU := Lib.hid (max_of hu)
  have HSL := Lib.hid (show s.data.toList.length = s.size by simp)
  have HUL := Lib.hid (show u.data.toList.length = u.size by simp)
  have HD := Lib.hid (fun (W : World) => diff_any s u W HS.out HU.out)
  rcases diffErr_cases s.data.toList u.data.toList with ⟨he, hc⟩ | ⟨he, hc, hd⟩ | ⟨he, h1, h2, h3, h4⟩
  · have e2 : diffD s.data.toList u.data.toList = ([], 2) := by unfold diffD; rw [he]; rfl
    rw [e2] at HD
    rw [HSL.out, HUL.out] at hc
    clear he e2
    by_cases k1 : 300 < s.size
    · clear hc
      go_enter Try.func4, Try.ntmps4
      go_wp2_with (first
        | (go_at_call 18; go_must ((with_reducible refine (HD.out _).mono ?_); rintro e w1 ⟨v1, rfl, hv1, hx1, hl1, ht1⟩; obtain ⟨a1, n1, c1, rfl⟩ := hv1.slice; obtain rfl : n1 = _ := hv1.len.1; have HV1 := Lib.hid hv1; have HL1 := Lib.hid hl1; have HT1 := Lib.hid ht1; clear hv1 hl1 ht1))
        | (go_at_call 17; go_must ((with_reducible refine (diffBegun_any _).mono ?_); rintro e wb ⟨rfl, hxb⟩)))
      go_ret
      exact ⟨rfl, (by repeat (first | (with_reducible exact ext_refl _) | (with_reducible assumption) | (with_reducible refine ext_drew ?_) | (with_reducible refine ext_drewN ?_ _) | (with_reducible refine ext_alloc ?_ _) | (with_reducible refine ext_set ?_ (by first | omega | (simp <;> omega)) _) | (with_reducible refine ext_trans ?_ (by with_reducible assumption))))⟩
    · have k2 : 300 < u.size := by omega
      clear hc
      go_enter Try.func4, Try.ntmps4
      go_wp2_with (first
        | (go_at_call 18; go_must ((with_reducible refine (HD.out _).mono ?_); rintro e w1 ⟨v1, rfl, hv1, hx1, hl1, ht1⟩; obtain ⟨a1, n1, c1, rfl⟩ := hv1.slice; obtain rfl : n1 = _ := hv1.len.1; have HV1 := Lib.hid hv1; have HL1 := Lib.hid hl1; have HT1 := Lib.hid ht1; clear hv1 hl1 ht1))
        | (go_at_call 17; go_must ((with_reducible refine (diffBegun_any _).mono ?_); rintro e wb ⟨rfl, hxb⟩)))
      go_ret
      exact ⟨rfl, (by repeat (first | (with_reducible exact ext_refl _) | (with_reducible assumption) | (with_reducible refine ext_drew ?_) | (with_reducible refine ext_drewN ?_ _) | (with_reducible refine ext_alloc ?_ _) | (with_reducible refine ext_set ?_ (by first | omega | (simp <;> omega)) _) | (with_reducible refine ext_trans ?_ (by with_reducible assumption))))⟩
  · have e2 : diffD s.data.toList u.data.toList = ([], 3) := by unfold diffD; rw [he]; rfl
    rw [e2] at HD
    rw [HSL.out, HUL.out] at hc
    have k1 : s.size ≤ 300 := by omega
    have k2 : u.size ≤ 300 := by omega
    clear he e2 hc
    cases g1 : signsB s.data.toList with
    | false =>
      clear hd
      go_enter Try.func4, Try.ntmps4
      go_wp2_with (first
        | (go_at_call 18; go_must ((with_reducible refine (HD.out _).mono ?_); rintro e w1 ⟨v1, rfl, hv1, hx1, hl1, ht1⟩; obtain ⟨a1, n1, c1, rfl⟩ := hv1.slice; obtain rfl : n1 = _ := hv1.len.1; have HV1 := Lib.hid hv1; have HL1 := Lib.hid hl1; have HT1 := Lib.hid ht1; clear hv1 hl1 ht1))
        | (go_at_call 19; ((with_reducible refine (areSigns_any _ _ (by first | exact HS.out | exact HU.out)).mono ?_); rintro e w' ⟨rfl, rfl⟩))
        | (go_at_call 17; go_must ((with_reducible refine (diffBegun_any _).mono ?_); rintro e wb ⟨rfl, hxb⟩)))
      go_ret
      exact ⟨rfl, (by repeat (first | (with_reducible exact ext_refl _) | (with_reducible assumption) | (with_reducible refine ext_drew ?_) | (with_reducible refine ext_drewN ?_ _) | (with_reducible refine ext_alloc ?_ _) | (with_reducible refine ext_set ?_ (by first | omega | (simp <;> omega)) _) | (with_reducible refine ext_trans ?_ (by with_reducible assumption))))⟩
    | true =>
      have g2 : signsB u.data.toList = false := by
        rcases hd with h | h
        · rw [g1] at h; cases h
        · exact h
      clear hd
      go_enter Try.func4, Try.ntmps4
      go_wp2_with (first
        | (go_at_call 18; go_must ((with_reducible refine (HD.out _).mono ?_); rintro e w1 ⟨v1, rfl, hv1, hx1, hl1, ht1⟩; obtain ⟨a1, n1, c1, rfl⟩ := hv1.slice; obtain rfl : n1 = _ := hv1.len.1; have HV1 := Lib.hid hv1; have HL1 := Lib.hid hl1; have HT1 := Lib.hid ht1; clear hv1 hl1 ht1))
        | (go_at_call 19; ((with_reducible refine (areSigns_any _ _ (by first | exact HS.out | exact HU.out)).mono ?_); rintro e w' ⟨rfl, rfl⟩))
        | (go_at_call 17; go_must ((with_reducible refine (diffBegun_any _).mono ?_); rintro e wb ⟨rfl, hxb⟩)))
      go_ret
      exact ⟨rfl, (by repeat (first | (with_reducible exact ext_refl _) | (with_reducible assumption) | (with_reducible refine ext_drew ?_) | (with_reducible refine ext_drewN ?_ _) | (with_reducible refine ext_alloc ?_ _) | (with_reducible refine ext_set ?_ (by first | omega | (simp <;> omega)) _) | (with_reducible refine ext_trans ?_ (by with_reducible assumption))))⟩
  · have e2 : diffD s.data.toList u.data.toList = (rawD s.data.toList u.data.toList, 0) := by unfold diffD; rw [he]; rfl
    obtain ⟨r1, r2, r3⟩ := raw_leads h1 h2 h3 h4
    rw [e2] at HD
    rw [HSL.out] at h1
    rw [HUL.out] at h2
    have HFAR := Lib.hid (fun (W : World) => farOf_any s u W h1 h2)
    have HR1 := Lib.hid r1
    have HR2 := Lib.hid r2
    have HR3 := Lib.hid r3
    generalize rawD s.data.toList u.data.toList = l at HD HR1 HR2 HR3
    clear he e2 r1 r2 r3
    have HPL := Lib.hid (fun (W : World) (F : Nat → Prop) (v : Value) (hv : RSl REd 4 F W v l) => (show Calls Try.prog 16 #[.string s, v] W (IsTxE u.data.toList 0 W) from by
      have h := playOf_any (v0 := .string s) (s := s.data.toList) (rtx_of hs) hv
      rw [HR1.out] at h
      exact h))
    have HMN := Lib.hid (fun (W : World) (F : Nat → Prop) (v : Value) (hv : RSl REd 4 F W v l) (k1 : ∀ e ∈ l, e.text.length ≤ 60) (k2 : l.length ≤ 600) => (show Calls Try.prog 20 #[v] W fun e w' => e = .returned (.int .i64 (far s.data.toList u.data.toList : Nat)) ∧ W = w' from HR2.out ▸ many_any hv k1 (by omega)))
    have tz : (((far s.data.toList u.data.toList : Nat) : Int) == ((far s.data.toList u.data.toList : Nat) : Int)) = true := by simp
    generalize far s.data.toList u.data.toList = fr at HFAR HMN tz
    clear HR2 hu
    go_enter Try.func4, Try.ntmps4
    go_wp2_with (first
      | (go_at_call 18; go_must ((with_reducible refine (HD.out _).mono ?_); rintro e w1 ⟨v1, rfl, hv1, hx1, hl1, ht1⟩; obtain ⟨a1, n1, c1, rfl⟩ := hv1.slice; obtain rfl : n1 = _ := hv1.len.1; have HV1 := Lib.hid hv1; have HL1 := Lib.hid hl1; have HT1 := Lib.hid ht1; clear hv1 hl1 ht1))
      | (go_at_call 19; ((with_reducible refine (areSigns_any _ _ (by first | exact HS.out | exact HU.out)).mono ?_); rintro e w' ⟨rfl, rfl⟩))
      | (go_at_call 17; go_must ((with_reducible refine (diffBegun_any _).mono ?_); rintro e wb ⟨rfl, hxb⟩))
      | (go_at_call 16; go_must ((with_reducible refine (HPL.out _ _ _ (HV1.out.ext gEd (by repeat (first | (with_reducible exact ext_refl _) | (with_reducible assumption) | (with_reducible refine ext_drew ?_) | (with_reducible refine ext_drewN ?_ _) | (with_reducible refine ext_alloc ?_ _) | (with_reducible refine ext_set ?_ (by first | omega | (simp <;> omega)) _) | (with_reducible refine ext_trans ?_ (by with_reducible assumption)))))).mono ?_); rintro e w2 ⟨v2, rfl, ⟨rfl, _⟩, hx2⟩)))
    have hw2 : Ext w1 w2 := (by repeat (first | (with_reducible exact ext_refl _) | (with_reducible assumption) | (with_reducible refine ext_drew ?_) | (with_reducible refine ext_drewN ?_ _) | (with_reducible refine ext_alloc ?_ _) | (with_reducible refine ext_set ?_ (by first | omega | (simp <;> omega)) _) | (with_reducible refine ext_trans ?_ (by with_reducible assumption))))
    have hw3 : Ext w w2 := ext_trans hx1 hw2
    have HW := Lib.hid hw3
    have HV := Lib.hid (HV1.out.ext gEd hw2)
    rw [tx_back]
    clear hw2 hw3 hx1 hx2 hxb HV1
    obtain ⟨_, hcap1, hcap2⟩ := HV.out.len
    unfold maxLen at hcap2
    go_loopw [10] (fun i wr => ∃ k : Nat, k ≤ l.length ∧ i = .int .i64 k ∧ wr = w2) (fun i _ => l.length - (intOf i).toNat)
    case atStart => exact ⟨0, Nat.zero_le _, rfl, rfl⟩
    case round =>
      obtain ⟨k, hk, rfl, rfl⟩ := hrel
      by_cases hlt : k < l.length
      · obtain ⟨b, o, x, tv, rfl, hb, ex, hx4, i1, i2, i3, z0, z1, z2, z3⟩ := ed_at HV.out hlt
        obtain ⟨q1, q2⟩ := HR3.out x (List.mem_of_getElem? ex)
        obtain ⟨tb, rfl, htb, _⟩ := bytes_of hx4
        rw [htb] at q1 q2
        have hbs : tb.data.toList.length = tb.size := by simp
        rw [hbs] at q2
        have q60 : ¬ 60 < tb.size := by omega
        clear ex hbs htb
        by_cases g1 : x.many = 0
        · have t1 : (x.many == 0) = true := by simpa using g1
          have t2 : tb.toList.isEmpty = false := by rw [ByteArray.toList_eq]; cases hl : tb.data.toList with | nil => exact absurd ⟨g1, hl⟩ q1 | cons _ _ => rfl
          clear g1 q1
          go_wp2_with fail
          go_roundw
          case rel => exact ⟨k + 1, by omega, by go_num, by trivial⟩
          case measure => simp [intOf]; omega
        · have t1 : (x.many == 0) = false := by simpa using g1
          clear g1 q1
          go_wp2_with fail
          go_roundw
          case rel => exact ⟨k + 1, by omega, by go_num, by trivial⟩
          case measure => simp [intOf]; omega
      · go_wp2_with (first
          | (go_at_call 20; go_must ((with_reducible refine (HMN.out _ _ _ HV.out HT1.out HL1.out).mono ?_); rintro e w3 ⟨rfl, rfl⟩))
          | (go_at_call 21; go_must ((with_reducible refine (HFAR.out _).mono ?_); rintro e w4 ⟨rfl, hx4⟩)))
        go_ret
        exact ⟨rfl, ext_trans HW.out hx4⟩
end Go.Proofs.Ythkhkbjkbpgaoaa
