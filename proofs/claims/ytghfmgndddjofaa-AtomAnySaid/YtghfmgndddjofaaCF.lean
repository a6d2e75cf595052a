/- What must be in any case, of atoms. -/
import Derived.Test.YtghfmgndddjofaaCE
import Derived.Test.YtghfmgndddjofaaC9
import Derived.Test.YtghfmgndddjofaaHI
import Derived.Test.YtghfmgndddjofaaB1
set_option linter.unusedVariables false
set_option linter.unusedSimpArgs false
namespace Go.Proofs.Ytghfmgndddjofaa
open Go Go.RowKit Go.BigFrame Cp

section
variable {α : Type} {R : Rd α} {sz : Nat} {F : Nat → Prop} {w : World} {l : List α}
theorem rsl_drop {b o n c : Nat} (h : RSl R sz F w (.slice (some ⟨b, o, none⟩) n c) l) {i : Nat} (hi : i ≤ n) : RSl R sz F w (.slice (some ⟨b, o + i * sz, none⟩) (n - i) (c - i)) (l.drop i) := by
  obtain ⟨a, cap, e, h1, h2, h3⟩ := h
  injection e with e1 e2 e3
  subst e1; subst e2; subst e3
  refine ⟨_, _, by rw [List.length_drop], by rw [List.length_drop]; omega, by omega, fun hne => ?_⟩
  obtain ⟨b', o', e', hF, hl, hx⟩ := h3 (fun e => hne (by rw [e]; simp))
  injection e' with e'
  injection e' with e1 e2
  subst e1; subst e2
  refine ⟨_, _, rfl, hF, hl, fun j x hj => ?_⟩
  rw [List.getElem?_drop] at hj
  obtain ⟨cs, c1, c2, c3⟩ := hx (i + j) x hj
  exact ⟨cs, c1, by rw [Nat.add_mul, ← Nat.add_assoc] at c2; exact c2, c3⟩
theorem rsl_take {a : Option Addr} {n c : Nat} (h : RSl R sz F w (.slice a n c) l) {i : Nat} (hi : i ≤ n) : RSl R sz F w (.slice a i c) (l.take i) := by
  obtain ⟨a', cap, e, h1, h2, h3⟩ := h
  injection e with e1 e2 e3
  subst e1; subst e2; subst e3
  refine ⟨_, _, by rw [List.length_take, Nat.min_eq_left hi], by rw [List.length_take]; omega, h2, fun hne => ?_⟩
  obtain ⟨b', o', e', hF, hl, hx⟩ := h3 (fun e => hne (by rw [e]; simp))
  refine ⟨b', o', e', hF, hl, fun j x hj => ?_⟩
  rw [List.getElem?_take] at hj
  split at hj
  · exact hx j x hj
  · cases hj
end
abbrev hiH : List At := [(([(3, 0)], 1), 104)]
abbrev hiT : List At := [(([(4, 0)], 2), 105)]
abbrev m3 : Mk := ([(3, 0)], 1)
theorem hi_tail {F : Nat → Prop} {w : World} {g : Nat} (h : RSl RAt 3 F w (.slice (some ⟨g, 0, none⟩) 2 2) hiL) : RSl RAt 3 F w (.slice (some ⟨g, 3, none⟩) 1 1) hiT := rsl_drop h (i := 1) (by omega)
theorem hi_head {F : Nat → Prop} {w : World} {g : Nat} (h : RSl RAt 3 F w (.slice (some ⟨g, 0, none⟩) 2 2) hiL) : RSl RAt 3 F w (.slice (some ⟨g, 0, none⟩) 1 2) hiH := rsl_take h (i := 1) (by omega)
theorem hi_check : checkA hiL = 0 := by decide
theorem hi_textE : textE hiL = ([104, 105], 0) := by decide
theorem hi_putE : putE hiT hiH = (hiL, 0) := by decide
theorem hi_takeE : takeE hiL [m3] = (hiT, 0) := by decide
section
variable {F G : Nat → Prop} {w : World} {v u : Value}
theorem ab_text (h : RSl RAt 3 F w v hiL) : Calls Try.prog 37 #[v] w fun e w' => e = .returned (.tuple #[.string ⟨#[104, 105]⟩, .int .i64 0]) ∧ Ext w w' := by
  have h1 := text_any h
  rw [hi_textE] at h1
  exact h1
theorem ab_put (h : RSl RAt 3 F w v hiT) (k : RSl RAt 3 G w u hiH) : Calls Try.prog 38 #[v, u] w (IsAtE (hiL, 0) w) := by
  have h1 := putAtoms_any h k
  rw [hi_putE] at h1
  exact h1
theorem ab_take (h : RSl RAt 3 F w v hiL) (k : RSl RMk 2 G w u [m3]) : Calls Try.prog 39 #[v, u] w (IsAtE (hiT, 0) w) := by
  have h1 := takeP_any h k
  rw [hi_takeE] at h1
  exact h1
theorem ab_check (h : RSl RAt 3 F w v hiL) : Calls Try.prog 45 #[v] w fun e w' => e = .returned (.int .i64 0) ∧ Ext w w' := by
  have h1 := checkAtomsP_any h
  rw [hi_check] at h1
  exact h1
end
theorem mark_one' {F : Nat → Prop} {W : World} {r : Nat} {v : Value} {p : List Stp} {c : Int} (h1 : RSl RStp 2 F W v p) (i1 : I64 c) (z0 : W.cell? ⟨r, 0, none⟩ = some v) (z1 : W.cell? ⟨r, 1, none⟩ = some (.int .i64 c)) (hF : F r) (hr : r < W.heap.size) :
    RSl RMk 2 F W (.slice (some ⟨r, 0, none⟩) 1 1) [(p, c)] :=
  rsl_of_range (rangeAt2 z0 z1) (chunks_one (x := (p, c)) rfl ⟨_, rfl, h1, i1⟩) hF hr (Nat.le_refl _) (by unfold maxLen; omega)
set_option maxRecDepth 100000 in
set_option maxHeartbeats 4000000 in
theorem atomBegun_any (w : World) : Calls Try.prog 44 #[] w fun e w' => e = .returned (.bool true) ∧ Ext w w' := by
  go_enter Try.func44, Try.ntmps44
  go_wp2_with (first
    | (go_at_call 93; go_must ((with_reducible refine (hi_two _).mono ?_); rintro e w1 ⟨g1, rfl, hv1, hx1⟩; have HV1 := Lib.hid hv1; have HT1 := Lib.hid (hi_tail hv1); have HH1 := Lib.hid (hi_head hv1); clear hv1; have hz1 := hx1.size; (try simp at hz1)))
    | (go_at_call 37; go_must ((with_reducible refine (ab_text (HV1.out.ext gAt (by repeat (first | (with_reducible exact ext_refl _) | (with_reducible assumption) | (with_reducible refine ext_drew ?_) | (with_reducible refine ext_drewN ?_ _) | (with_reducible refine ext_alloc ?_ _) | (with_reducible refine ext_set ?_ (by first | omega | (simp <;> omega)) _) | (with_reducible refine ext_trans ?_ (by with_reducible assumption)))))).mono ?_); rintro e w2 ⟨rfl, hx2⟩; have hz2 := hx2.size; (try simp at hz2))))
  have M1 : True := trivial
  go_region_held3 (fun W => True) (trivial)
    (first
      | (go_at_call 93; (clear M1); go_must ((with_reducible refine (hi_two _).mono ?_); rintro e w3 ⟨g3, rfl, hv3, hx3⟩; have HV3 := Lib.hid hv3; have HT3 := Lib.hid (hi_tail hv3); have HH3 := Lib.hid (hi_head hv3); clear hv3; have hz3 := hx3.size; (try simp at hz3)))
      | (go_at_call 93; go_must ((with_reducible refine (hi_two _).mono ?_); rintro e w4 ⟨g4, rfl, hv4, hx4⟩; have HV4 := Lib.hid hv4; have HT4 := Lib.hid (hi_tail hv4); have HH4 := Lib.hid (hi_head hv4); clear hv4; have hz4 := hx4.size; (try simp at hz4)))
      | (go_at_call 38; go_must ((with_reducible refine (ab_put (HT3.out.ext gAt (by repeat (first | (with_reducible exact ext_refl _) | (with_reducible assumption) | (with_reducible refine ext_drew ?_) | (with_reducible refine ext_drewN ?_ _) | (with_reducible refine ext_alloc ?_ _) | (with_reducible refine ext_set ?_ (by first | omega | (simp <;> omega)) _) | (with_reducible refine ext_trans ?_ (by with_reducible assumption))))) (HH4.out.ext gAt (by repeat (first | (with_reducible exact ext_refl _) | (with_reducible assumption) | (with_reducible refine ext_drew ?_) | (with_reducible refine ext_drewN ?_ _) | (with_reducible refine ext_alloc ?_ _) | (with_reducible refine ext_set ?_ (by first | omega | (simp <;> omega)) _) | (with_reducible refine ext_trans ?_ (by with_reducible assumption)))))).mono ?_); rintro e w5 ⟨v5, rfl, hv5, hx5⟩; obtain ⟨a5, n5, c5, rfl⟩ := hv5.slice; obtain rfl : n5 = 2 := hv5.len.1; have HV5 := Lib.hid hv5; clear hv5; have hz5 := hx5.size; (try simp at hz5)))
      | (go_at_call 38; go_must ((with_reducible refine (ab_put (HT4.out.ext gAt (by repeat (first | (with_reducible exact ext_refl _) | (with_reducible assumption) | (with_reducible refine ext_drew ?_) | (with_reducible refine ext_drewN ?_ _) | (with_reducible refine ext_alloc ?_ _) | (with_reducible refine ext_set ?_ (by first | omega | (simp <;> omega)) _) | (with_reducible refine ext_trans ?_ (by with_reducible assumption))))) (HH3.out.ext gAt (by repeat (first | (with_reducible exact ext_refl _) | (with_reducible assumption) | (with_reducible refine ext_drew ?_) | (with_reducible refine ext_drewN ?_ _) | (with_reducible refine ext_alloc ?_ _) | (with_reducible refine ext_set ?_ (by first | omega | (simp <;> omega)) _) | (with_reducible refine ext_trans ?_ (by with_reducible assumption)))))).mono ?_); rintro e w5 ⟨v5, rfl, hv5, hx5⟩; obtain ⟨a5, n5, c5, rfl⟩ := hv5.slice; obtain rfl : n5 = 2 := hv5.len.1; have HV5 := Lib.hid hv5; clear hv5; have hz5 := hx5.size; (try simp at hz5))))
  all_goals
    have M6 : True := trivial
    have M7 : True := trivial
    have M8 : True := trivial
    have M9 : True := trivial
    go_wp2_with (first
      | (go_at_call 93; (clear M6); go_must ((with_reducible refine (hi_two _).mono ?_); rintro e w6 ⟨g6, rfl, hv6, hx6⟩; have HV6 := Lib.hid hv6; have HT6 := Lib.hid (hi_tail hv6); have HH6 := Lib.hid (hi_head hv6); clear hv6; have hz6 := hx6.size; (try simp at hz6)))
      | (go_at_call 94; go_must ((with_reducible refine (at_any 3 0 1 (i64_small (by simp) (by simp)) (i64_small (by simp) (by simp)) (i64_small (by simp) (by simp)) _).mono ?_); rintro e w10 ⟨cs10, rfl, hm10, hx10⟩; obtain ⟨v10, rfl, hv10, hi10⟩ := hm10; obtain ⟨a10, n10, c10, rfl⟩ := hv10.slice; obtain rfl : n10 = 1 := hv10.len.1; have HV10 := Lib.hid (RSl.more (G := fun _ => True) gStp (fun _ _ _ => trivial) hv10); clear hv10 hi10; have hz10 := hx10.size; (try simp at hz10)))
      | (go_at_call 39; go_must ((with_reducible refine (ab_take (HV6.out.ext gAt (by repeat (first | (with_reducible exact ext_refl _) | (with_reducible assumption) | (with_reducible refine ext_drew ?_) | (with_reducible refine ext_drewN ?_ _) | (with_reducible refine ext_alloc ?_ _) | (with_reducible refine ext_set ?_ (by first | omega | (simp <;> omega)) _) | (with_reducible refine ext_trans ?_ (by with_reducible assumption))))) (mark_one' (c := 1) (HV10.out.ext gStp (by repeat (first | (with_reducible exact ext_refl _) | (with_reducible assumption) | (with_reducible refine ext_drew ?_) | (with_reducible refine ext_drewN ?_ _) | (with_reducible refine ext_alloc ?_ _) | (with_reducible refine ext_set ?_ (by first | omega | (simp <;> omega)) _) | (with_reducible refine ext_trans ?_ (by with_reducible assumption))))) (i64_small (by simp) (by simp)) (by go_simp) (by go_simp) trivial (by first | omega | (simp <;> omega)))).mono ?_); rintro e w11 ⟨v11, rfl, hv11, hx11⟩; obtain ⟨a11, n11, c11, rfl⟩ := hv11.slice; obtain rfl : n11 = 1 := hv11.len.1; have HV11 := Lib.hid hv11; clear hv11; have hz11 := hx11.size; (try simp at hz11)))
      | (go_at_call 93; (clear M7); go_must ((with_reducible refine (hi_two _).mono ?_); rintro e w7 ⟨g7, rfl, hv7, hx7⟩; have HV7 := Lib.hid hv7; have HT7 := Lib.hid (hi_tail hv7); have HH7 := Lib.hid (hi_head hv7); clear hv7; have hz7 := hx7.size; (try simp at hz7)))
      | (go_at_call 45; go_must ((with_reducible refine (ab_check (HV7.out.ext gAt (by repeat (first | (with_reducible exact ext_refl _) | (with_reducible assumption) | (with_reducible refine ext_drew ?_) | (with_reducible refine ext_drewN ?_ _) | (with_reducible refine ext_alloc ?_ _) | (with_reducible refine ext_set ?_ (by first | omega | (simp <;> omega)) _) | (with_reducible refine ext_trans ?_ (by with_reducible assumption)))))).mono ?_); rintro e w12 ⟨rfl, hx12⟩; have hz12 := hx12.size; (try simp at hz12)))
      | (go_at_call 93; (clear M8); go_must ((with_reducible refine (hi_two _).mono ?_); rintro e w8 ⟨g8, rfl, hv8, hx8⟩; have HV8 := Lib.hid hv8; have HT8 := Lib.hid (hi_tail hv8); have HH8 := Lib.hid (hi_head hv8); clear hv8; have hz8 := hx8.size; (try simp at hz8)))
      | (go_at_call 47; (clear M9); go_must ((with_reducible refine (sameAtoms_any (HV5.out.ext gAt (by repeat (first | (with_reducible exact ext_refl _) | (with_reducible assumption) | (with_reducible refine ext_drew ?_) | (with_reducible refine ext_drewN ?_ _) | (with_reducible refine ext_alloc ?_ _) | (with_reducible refine ext_set ?_ (by first | omega | (simp <;> omega)) _) | (with_reducible refine ext_trans ?_ (by with_reducible assumption))))) (HV8.out.ext gAt (by repeat (first | (with_reducible exact ext_refl _) | (with_reducible assumption) | (with_reducible refine ext_drew ?_) | (with_reducible refine ext_drewN ?_ _) | (with_reducible refine ext_alloc ?_ _) | (with_reducible refine ext_set ?_ (by first | omega | (simp <;> omega)) _) | (with_reducible refine ext_trans ?_ (by with_reducible assumption)))))).mono ?_); rintro e w13 ⟨rfl, hx13⟩; have hz13 := hx13.size; (try simp at hz13)))
      | (go_at_call 93; go_must ((with_reducible refine (hi_two _).mono ?_); rintro e w9 ⟨g9, rfl, hv9, hx9⟩; have HV9 := Lib.hid hv9; have HT9 := Lib.hid (hi_tail hv9); have HH9 := Lib.hid (hi_head hv9); clear hv9; have hz9 := hx9.size; (try simp at hz9)))
      | (go_at_call 47; go_must ((with_reducible refine (sameAtoms_any (HV11.out.ext gAt (by repeat (first | (with_reducible exact ext_refl _) | (with_reducible assumption) | (with_reducible refine ext_drew ?_) | (with_reducible refine ext_drewN ?_ _) | (with_reducible refine ext_alloc ?_ _) | (with_reducible refine ext_set ?_ (by first | omega | (simp <;> omega)) _) | (with_reducible refine ext_trans ?_ (by with_reducible assumption))))) (HT9.out.ext gAt (by repeat (first | (with_reducible exact ext_refl _) | (with_reducible assumption) | (with_reducible refine ext_drew ?_) | (with_reducible refine ext_drewN ?_ _) | (with_reducible refine ext_alloc ?_ _) | (with_reducible refine ext_set ?_ (by first | omega | (simp <;> omega)) _) | (with_reducible refine ext_trans ?_ (by with_reducible assumption)))))).mono ?_); rintro e w14 ⟨rfl, hx14⟩; have hz14 := hx14.size; (try simp at hz14))))
    go_ret
    exact ⟨rfl, (by repeat (first | (with_reducible exact ext_refl _) | (with_reducible assumption) | (with_reducible refine ext_drew ?_) | (with_reducible refine ext_drewN ?_ _) | (with_reducible refine ext_alloc ?_ _) | (with_reducible refine ext_set ?_ (by first | omega | (simp <;> omega)) _) | (with_reducible refine ext_trans ?_ (by with_reducible assumption))))⟩
end Go.Proofs.Ytghfmgndddjofaa
