/- RelayTells, walked. -/
import Derived.Test.YtiladkinndgeaaaQe3cafc5f9a
import Derived.Test.YtiladkinndgeaaaQ8e32c658b6
import Derived.Deep.DeepCutAuto
set_option linter.unusedVariables false
set_option linter.unusedSimpArgs false
namespace Go.Proofs.Ytiladkinndgeaaa
open Go Go.RowKit Go.BigFrame Cp

def firstE (l : List No) (n : No) : Int := if checkLog l ≠ 0 then checkLog l else checkN n
theorem firstE_ok {l : List No} {n : No} (h : firstE l n = 0) : checkLog l = 0 ∧ checkN n = 0 := by
  unfold firstE at h
  by_cases h1 : checkLog l = 0
  · rw [if_neg (by simpa using h1)] at h; exact ⟨h1, h⟩
  · rw [if_pos h1] at h; exact absurd h h1
theorem firstE_err {l : List No} {n : No} (h : ¬ firstE l n = 0) : postE l n = firstE l n ∧ postB l n = false := by
  have e : postE l n = firstE l n := by
    unfold firstE at h ⊢
    by_cases h1 : checkLog l = 0
    · rw [if_neg (by simpa using h1)] at h ⊢; exact postE_note h1 h
    · rw [if_pos h1] at h ⊢; exact postE_log h1
  exact ⟨e, (post_err (by rw [e]; exact h)).2⟩
theorem topR {F : Nat → Prop} {w : World} {v : Value} {l : List No} (h : RSl RNo 4 F w v l) : RSl RNo 4 (fun _ => True) w v l := RSl.more gNo (fun _ _ _ => trivial) h
theorem noG_l0 {a : Nat} (h : a ≤ 1000) : ([] : List No).length + a ≤ maxLen := Nat.le_trans (by simp; omega : ([] : List No).length + a ≤ 1001) (by unfold maxLen; decide)
theorem noG_b0 {a : Nat} (h : a ≤ 1000) : (([] : List No).length + a) * 64 ≤ 140737488355328 := by simp; omega
def pbad (l : List No) (c m : Int) : Bool := decide (checkLog l = 0) && (!(inB c 0 l.length) || !(inB m 0 300))
theorem pbad_false {l : List No} {c m : Int} (h : ¬ checkLog l = 0) : pbad l c m = false := by unfold pbad; rw [decide_eq_false h]; rfl
theorem pbad_c {l : List No} {c m : Int} (h : checkLog l = 0) (k : ¬ (0 ≤ c ∧ c ≤ l.length)) : pbad l c m = true := by
  have : inB c 0 l.length = false := by unfold inB; simp; omega
  unfold pbad; rw [decide_eq_true h, this]; rfl
theorem pbad_m {l : List No} {c m : Int} (h : checkLog l = 0) (k : ¬ (0 ≤ m ∧ m ≤ 300)) : pbad l c m = true := by
  have : inB m 0 300 = false := by unfold inB; simp; omega
  unfold pbad; rw [decide_eq_true h, this]; simp
theorem pbad_ok {l : List No} {c m : Int} (h : 0 ≤ c ∧ c ≤ l.length) (k : 0 ≤ m ∧ m ≤ 300) : pbad l c m = false := by
  have h1 : inB c 0 l.length = true := by unfold inB; simp; omega
  have h2 : inB m 0 300 = true := by unfold inB; simp; omega
  unfold pbad; rw [h1, h2]; simp
theorem pullE_bad {l : List No} {c m : Int} (h : pbad l c m = true) : pullE l c m = 3 := by
  unfold pbad at h
  rw [Bool.and_eq_true] at h
  obtain ⟨h1, h2⟩ := h
  unfold pullE
  rw [if_neg (by simpa using h1), if_pos (by simpa using h2)]
theorem pullE_ok {l : List No} {c m : Int} (h : pbad l c m = false) : pullE l c m = checkLog l := by
  unfold pbad at h
  unfold pullE
  by_cases h1 : checkLog l = 0
  · rw [decide_eq_true h1] at h
    rw [if_neg (by simpa using h1), if_neg (by simpa using h), h1]
  · rw [if_pos (by simpa using h1)]
theorem wrap_h1 {h : Nat} (k : h ≤ 300) : wrap64 ((h : Int) + 1) = (h : Int) + 1 := IntWalk.wrap64_in _ (by omega)
theorem le1000 {h : Nat} (k : h ≤ 300) : h ≤ 1000 := Nat.le_trans k (by decide)
theorem own_cases {v' : Value} {g l c N : Nat} (h : v'.ownBlock = (Value.slice (some ⟨g, 0, none⟩) l c).ownBlock ∨ v'.ownBlock = some N) : ∀ k, v'.ownBlock = some k → k = g ∨ k = N := by
  intro k hk
  rcases h with h | h
  · exact Or.inl (own_eq (h.symm.trans hk)).symm
  · rw [h] at hk; injection hk with hk; exact Or.inr hk.symm
theorem osl_emp {w0 w' : World} {g e base : Nat} {F : Nat → Prop} (hx : Ext (w0.alloc (.cells #[] e)) w') (hg : w0.heap.size = g) (hb : base ≤ g) : OSl RNo 4 e base F w' (.slice (some ⟨g, 0, none⟩) 0 0) [] := osl_ext gNo (osl_newAt hg hb) hx
theorem pull_len {l : List No} {c m : Int} : (pullV l c m).length ≤ 300 := by
  by_cases h : pullE l c m = 0
  · obtain ⟨_, h1, h2, h3, h4⟩ := pull_right h
    unfold pullV
    rw [if_pos h, List.length_take]
    omega
  · unfold pullV; rw [if_neg h]; simp
theorem wrap_k3 {k : Nat} (h : k < 300) : wrap64 ((k : Int) + 1) = ((k + 1 : Nat) : Int) := wrap_nat (by omega)
theorem less_k3 {k n : Nat} (hl : k < n) : n - (intOf (.int .i64 ((k : Int) + 1))).toNat < n - (intOf (.int .i64 (k : Int))).toNat := by
  show n - (((k + 1 : Nat) : Int)).toNat < n - ((k : Nat) : Int).toNat
  rw [Int.toNat_natCast, Int.toNat_natCast]
  omega
theorem pull_in {l : List No} {c m : Int} {k : Nat} (h : k < (pullV l c m).length) : (pullE l c m == 0) = true ∧ decide ((k : Int) < m) = true ∧ ∃ q : Nat, wrap64 (c + (k : Int)) = (q : Int) ∧ q < l.length ∧ (pullV l c m)[k]? = l[q]? := by
  by_cases h0 : pullE l c m = 0
  · obtain ⟨h5, h1, h2, h3, h4⟩ := pull_right h0
    have hl := (checkLog_ok.1 h5).1
    have e : pullV l c m = (l.drop c.toNat).take m.toNat := by unfold pullV; rw [if_pos h0]
    rw [e, List.length_take, List.length_drop] at h
    refine ⟨by rw [h0]; rfl, decide_eq_true (by omega), c.toNat + k, ?_, by omega, ?_⟩
    · rw [IntWalk.wrap64_in _ (by omega)]; omega
    · rw [e, List.getElem?_take_of_lt (by omega), List.getElem?_drop]
  · unfold pullV at h; rw [if_neg h0] at h; simp at h
theorem pull_out {l : List No} {c m : Int} {k : Nat} (h : k = (pullV l c m).length) : (pullE l c m == 0) = false ∨ (pullE l c m == 0) = true ∧ (decide ((k : Int) < m) = false ∨ decide ((k : Int) < m) = true ∧ decide (wrap64 (c + (k : Int)) < (l.length : Int)) = false) := by
  by_cases h0 : pullE l c m = 0
  · obtain ⟨h5, h1, h2, h3, h4⟩ := pull_right h0
    have hl := (checkLog_ok.1 h5).1
    have e : pullV l c m = (l.drop c.toNat).take m.toNat := by unfold pullV; rw [if_pos h0]
    rw [e, List.length_take, List.length_drop] at h
    right
    refine ⟨by rw [h0]; rfl, ?_⟩
    by_cases hk : (k : Int) < m
    · right
      refine ⟨decide_eq_true hk, decide_eq_false ?_⟩
      rw [IntWalk.wrap64_in _ (by omega)]
      omega
    · exact Or.inl (decide_eq_false hk)
  · left; simpa using h0
set_option maxRecDepth 100000 in
set_option maxHeartbeats 4000000 in
theorem relayTells_any {F G : Nat → Prop} {w : World} {cs ds : List Value} {l : List No} {n : No} {c m : Int} (h : RRe F w cs l) (k : RNo G w ds n) (ic : I64 c) (im : I64 m) :
    Calls Try.prog 5 #[.agg cs.toArray, .agg ds.toArray, .int .i64 c, .int .i64 m] w fun e w' => e = .returned (.bool true) ∧ Ext w w' := by
  obtain ⟨v, rfl, h⟩ := h
  have HPO := Lib.hid (fun (W : World) (hx : Ext w W) => post_any (h.ext gNo hx) (gNo.ext k hx))
  have HPU := Lib.hid (fun (W : World) (hx : Ext w W) => pull_any (h.ext gNo hx) ic im)
  have HCR := Lib.hid (fun (W : World) (hx : Ext w W) => checkRelay_any (h.ext gNo hx))
  have HCP := Lib.hid (fun (W : World) (hx : Ext w W) => checkRelayP_any (h.ext gNo hx))
  have HCN := Lib.hid (fun (W : World) (hx : Ext w W) => checkNote_any (gNo.ext k hx))
  have HL := Lib.hid (fun (W : World) (hx : Ext w W) => h.ext gNo hx)
  have HN := Lib.hid (fun (W : World) (hx : Ext w W) => gNo.ext k hx)
  obtain ⟨a0, n0, c0, rfl⟩ := h.slice
  obtain rfl : n0 = l.length := h.len.1
  obtain ⟨v', x', rfl, i1, i2, k1, k2⟩ := k
  obtain ⟨a1, n1, c1, rfl⟩ := k1.slice
  obtain ⟨a2, n2, c2, rfl⟩ := k2.slice
  clear h k1 k2 i2
  go_enter Try.func5, Try.ntmps5
  go_upto_if 41 with (first | (go_at_call 15; go_must ((with_reducible refine (HPO.out _ extA).mono ?_); rintro e w3 ⟨u3, rfl, hu3, hx3⟩; obtain ⟨a3, n3, c3, rfl⟩ := hu3.slice; have HV3 := Lib.hid hu3; have hz3 := hx3.size; (try simp at hz3); have hb3_0 : w.heap.size < w3.heap.size := (by omega); have hb3_1 : w.heap.size + 1 < w3.heap.size := (by omega); have c3_0 := (hx3.cells (w.heap.size) 0 (by first | omega | (simp <;> omega))).trans (show _ = some (.slice a0 l.length c0) by first | (with_reducible assumption) | go_simp); have c3_1 := (hx3.cells (w.heap.size + 1) 0 (by first | omega | (simp <;> omega))).trans (show _ = some (.int .i64 n.site) by first | (with_reducible assumption) | go_simp); have c3_2 := (hx3.cells (w.heap.size + 1) 1 (by first | omega | (simp <;> omega))).trans (show _ = some (.int .i64 n.number) by first | (with_reducible assumption) | go_simp); have c3_3 := (hx3.cells (w.heap.size + 1) 2 (by first | omega | (simp <;> omega))).trans (show _ = some (.slice a1 n1 c1) by first | (with_reducible assumption) | go_simp); have c3_4 := (hx3.cells (w.heap.size + 1) 3 (by first | omega | (simp <;> omega))).trans (show _ = some (.slice a2 n2 c2) by first | (with_reducible assumption) | go_simp); have HX3 := Lib.hid (show Ext w w3 from ext_trans extA hx3); clear hu3)) | (go_at_call 16; go_must ((with_reducible refine (HPU.out _ (ext_trans HX3.out extA)).mono ?_); rintro e w4 ⟨u4, rfl, hu4, hx4⟩; obtain ⟨a4, n4, c4, rfl⟩ := hu4.slice; have HV4 := Lib.hid hu4; have hz4 := hx4.size; (try simp at hz4); have hb4_0 : w.heap.size < w4.heap.size := (by omega); have hb4_1 : w.heap.size + 1 < w4.heap.size := (by omega); have hb4_2 : w3.heap.size < w4.heap.size := (by omega); have c4_0 := (hx4.cells (w.heap.size) 0 (by first | omega | (simp <;> omega))).trans (show _ = some (.slice a0 l.length c0) by first | (with_reducible assumption) | go_simp); have c4_1 := (hx4.cells (w.heap.size + 1) 0 (by first | omega | (simp <;> omega))).trans (show _ = some (.int .i64 n.site) by first | (with_reducible assumption) | go_simp); have c4_2 := (hx4.cells (w.heap.size + 1) 1 (by first | omega | (simp <;> omega))).trans (show _ = some (.int .i64 n.number) by first | (with_reducible assumption) | go_simp); have c4_3 := (hx4.cells (w.heap.size + 1) 2 (by first | omega | (simp <;> omega))).trans (show _ = some (.slice a1 n1 c1) by first | (with_reducible assumption) | go_simp); have c4_4 := (hx4.cells (w.heap.size + 1) 3 (by first | omega | (simp <;> omega))).trans (show _ = some (.slice a2 n2 c2) by first | (with_reducible assumption) | go_simp); have c4_5 := (hx4.cells (w3.heap.size) 0 (by first | omega | (simp <;> omega))).trans (show _ = some (.slice a3 n3 c3) by first | (with_reducible assumption) | go_simp); have HX4 := Lib.hid (show Ext w w4 from ext_trans (ext_trans HX3.out extA) hx4); have HX43 := Lib.hid (show Ext w3 w4 from ext_trans extA hx4); clear hu4)) | (go_at_call 17; go_must ((with_reducible refine (HCR.out _ (ext_trans HX4.out extA)).mono ?_); rintro e w5 ⟨rfl, hx5⟩; have hz5 := hx5.size; (try simp at hz5); have hb5_0 : w.heap.size < w5.heap.size := (by omega); have hb5_1 : w.heap.size + 1 < w5.heap.size := (by omega); have hb5_2 : w3.heap.size < w5.heap.size := (by omega); have c5_0 := (hx5.cells (w.heap.size) 0 (by first | omega | (simp <;> omega))).trans (show _ = some (.slice a0 l.length c0) by first | (with_reducible assumption) | go_simp); have c5_1 := (hx5.cells (w.heap.size + 1) 0 (by first | omega | (simp <;> omega))).trans (show _ = some (.int .i64 n.site) by first | (with_reducible assumption) | go_simp); have c5_2 := (hx5.cells (w.heap.size + 1) 1 (by first | omega | (simp <;> omega))).trans (show _ = some (.int .i64 n.number) by first | (with_reducible assumption) | go_simp); have c5_3 := (hx5.cells (w.heap.size + 1) 2 (by first | omega | (simp <;> omega))).trans (show _ = some (.slice a1 n1 c1) by first | (with_reducible assumption) | go_simp); have c5_4 := (hx5.cells (w.heap.size + 1) 3 (by first | omega | (simp <;> omega))).trans (show _ = some (.slice a2 n2 c2) by first | (with_reducible assumption) | go_simp); have c5_5 := (hx5.cells (w3.heap.size) 0 (by first | omega | (simp <;> omega))).trans (show _ = some (.slice a3 n3 c3) by first | (with_reducible assumption) | go_simp); have HX5 := Lib.hid (show Ext w w5 from ext_trans (ext_trans HX4.out extA) hx5); have HX53 := Lib.hid (show Ext w3 w5 from ext_trans (ext_trans HX43.out extA) hx5); have HX54 := Lib.hid (show Ext w4 w5 from ext_trans extA hx5))))
  refine wp_name (fun W1 eW1 => ?_)
  have e0 : W1.cell? ⟨w.heap.size, 0, none⟩ = some (.slice a0 l.length c0) := by rw [eW1]; go_simp
  have e1 : W1.cell? ⟨w.heap.size + 1, 0, none⟩ = some (.int .i64 n.site) := by rw [eW1]; go_simp
  have e2 : W1.cell? ⟨w.heap.size + 1, 1, none⟩ = some (.int .i64 n.number) := by rw [eW1]; go_simp
  have e3 : W1.cell? ⟨w.heap.size + 1, 2, none⟩ = some (.slice a1 n1 c1) := by rw [eW1]; go_simp
  have e4 : W1.cell? ⟨w.heap.size + 1, 3, none⟩ = some (.slice a2 n2 c2) := by rw [eW1]; go_simp
  have e5 : W1.cell? ⟨w3.heap.size, 0, none⟩ = some (.slice a3 n3 c3) := by rw [eW1]; go_simp
  have HW1 := Lib.hid (show Ext w W1 by rw [eW1]; exact ext_trans HX5.out extA)
  have HP := Lib.hid (show RSl RNo 4 (fun _ => True) W1 (.slice a3 n3 c3) (postV l n) from RSl.more gNo (fun _ _ _ => trivial) (HV3.out.ext gNo (by rw [eW1]; exact ext_trans HX53.out extA)))
  have HQ := Lib.hid (show RSl RNo 4 (fun _ => True) W1 (.slice a4 n4 c4) (pullV l c m) from RSl.more gNo (fun _ _ _ => trivial) (HV4.out.ext gNo (by rw [eW1]; exact ext_trans HX54.out extA)))
  have z0 : w.heap.size < W1.heap.size := World.block_lt_of_cell? _ _ e0
  have z1 : w.heap.size + 1 < W1.heap.size := World.block_lt_of_cell? _ _ e1
  have z2 : w3.heap.size < W1.heap.size := World.block_lt_of_cell? _ _ e5
  clear eW1 hx3 hx4 hx5 HX3 HX4 HX5 HV3 HV4 HX53 HX54 HPO HPU HCR HX43 hz4 hz5 hb4_0 hb4_1 hb4_2 hb5_0 hb5_1 hb5_2 c3_0 c3_1 c3_2 c3_3 c3_4 c4_0 c4_1 c4_2 c4_3 c4_4 c4_5 c5_0 c5_1 c5_2 c5_3 c5_4 c5_5
  generalize w3.heap.size = xb at *
  have HF := Lib.hid (show firstE l n = if checkLog l ≠ 0 then checkLog l else checkN n from rfl)
  go_cut [15] from 22 (fun s wx => s = .int .i64 (firstE l n) ∧ Hid (Ext W1 wx))
  case first =>
    by_cases hl0 : checkLog l = 0
    · have t1 : (checkLog l == 0) = true := by simp [hl0]
      have HFE := Lib.hid (show checkN n = firstE l n by rw [HF.out, if_neg (by simpa using hl0)])
      clear hl0
      go_wp2_with (first | (go_at_call 9; go_must ((with_reducible refine (HCN.out _ (ext_trans HW1.out extA)).mono ?_); rintro e w6 ⟨rfl, hx6⟩; have HX6 := Lib.hid (show Ext W1 w6 from ext_trans extA hx6))))
      go_meet
      exact ⟨by rw [HFE.out], Lib.hid (ext_trans HX6.out extA)⟩
    · have t1 : (checkLog l == 0) = false := by simpa using hl0
      have HFE := Lib.hid (show checkLog l = firstE l n by rw [HF.out, if_pos (by simpa using hl0)])
      clear hl0
      go_wp2_with fail
      go_meet
      exact ⟨by rw [HFE.out], Lib.hid extA⟩
  case rest =>
    obtain ⟨rfl, HXC⟩ := hcut
    obtain ⟨W2, eW2⟩ : ∃ W : World, W = wc := ⟨wc, rfl⟩
    subst eW2
    have y0 := (HXC.out.cells (w.heap.size) 0 z0).trans e0
    have y1 := (HXC.out.cells (w.heap.size + 1) 0 z1).trans e1
    have y2 := (HXC.out.cells (w.heap.size + 1) 1 z1).trans e2
    have y3 := (HXC.out.cells (w.heap.size + 1) 2 z1).trans e3
    have y4 := (HXC.out.cells (w.heap.size + 1) 3 z1).trans e4
    have y5 := (HXC.out.cells (xb) 0 z2).trans e5
    have HW2 := Lib.hid (ext_trans HW1.out HXC.out)
    have z3 : w.heap.size < W2.heap.size := by have := HXC.out.size; omega
    have z4 : w.heap.size + 1 < W2.heap.size := by have := HXC.out.size; omega
    have z5 : xb < W2.heap.size := by have := HXC.out.size; omega
    clear e0 e1 e2 e3 e4 e5 z0 z1 z2 HF HCN
    go_upto_if 47 with fail
    go_cut [15, 17, 18] from 19 (fun s15 s17 s18 wx => s15 = .int .i64 (postE l n) ∧ s17 = .bool (postB l n) ∧ ∃ (a : Option Addr) (k c : Nat) (lw : List No), s18 = .slice a k c ∧ Hid (RSl RNo 4 (fun _ => True) wx (.slice a k c) lw) ∧ (postE l n = 0 → lw = postV l n) ∧ Hid (Ext W2 wx))
    case first =>
      by_cases hf : firstE l n = 0
      · obtain ⟨hl0, hn0⟩ := firstE_ok hf
        obtain ⟨hl3, _⟩ := checkLog_ok.1 hl0
        rw [hf]
        have HPE := Lib.hid (postE_add hl0 hn0)
        have HPA := Lib.hid (post_add hl0 hn0)
        have HHM := Lib.hid (fun (W : World) (hx : Ext w W) => howMany_any n.site (HL.out W hx) (le1000 hl3))
        obtain ⟨h, hh⟩ : ∃ h : Nat, howN l n.site = h := ⟨_, rfl⟩
        have hhl := howN_len l n.site
        have HWR := Lib.hid (wrap_h1 (h := h) (hh ▸ Nat.le_trans (howN_len l n.site) hl3))
        have HH := Lib.hid hh
        rw [hh] at HHM
        clear hf hl0 hn0 hh HP HQ
        go_upto_if 54 with (first | (go_at_call 18; go_must ((with_reducible refine (HHM.out _ (ext_trans HW2.out extA)).mono ?_); rintro e w7 ⟨rfl, hx7⟩; have hz7 := hx7.size; (try simp at hz7); have hb7_0 : w.heap.size < w7.heap.size := (by omega); have hb7_1 : w.heap.size + 1 < w7.heap.size := (by omega); have hb7_2 : xb < w7.heap.size := (by omega); have c7_0 := (hx7.cells (w.heap.size) 0 (by first | omega | (simp <;> omega))).trans (show _ = some (.slice a0 l.length c0) by first | (with_reducible assumption) | go_simp); have c7_1 := (hx7.cells (w.heap.size + 1) 0 (by first | omega | (simp <;> omega))).trans (show _ = some (.int .i64 n.site) by first | (with_reducible assumption) | go_simp); have c7_2 := (hx7.cells (w.heap.size + 1) 1 (by first | omega | (simp <;> omega))).trans (show _ = some (.int .i64 n.number) by first | (with_reducible assumption) | go_simp); have c7_3 := (hx7.cells (w.heap.size + 1) 2 (by first | omega | (simp <;> omega))).trans (show _ = some (.slice a1 n1 c1) by first | (with_reducible assumption) | go_simp); have c7_4 := (hx7.cells (w.heap.size + 1) 3 (by first | omega | (simp <;> omega))).trans (show _ = some (.slice a2 n2 c2) by first | (with_reducible assumption) | go_simp); have c7_5 := (hx7.cells (xb) 0 (by first | omega | (simp <;> omega))).trans (show _ = some (.slice a3 n3 c3) by first | (with_reducible assumption) | go_simp); have HX7 := Lib.hid (show Ext W2 w7 from ext_trans extA hx7))))
        rw [HWR.out]
        by_cases hq1 : (h : Int) + 1 < n.number
        · first | rw [show decide (n.number > (h : Int) + 1) = true from decide_eq_true hq1] | rw [show decide ((h : Int) + 1 < n.number) = true from decide_eq_true hq1]
          have hE : addE l n = 4 := by unfold addE; rw [HH.out, if_pos hq1]
          have hP := HPE.out.trans hE
          have HPP := Lib.hid hP
          have HPB := Lib.hid (post_err (l := l) (n := n) (by rw [hP]; decide)).2
          clear hq1 hE hP hhl hl3
          go_wp2_with fail
          go_meet
          exact ⟨by rw [HPP.out], by rw [HPB.out], a0, _, c0, l, rfl, Lib.hid (topR (HL.out _ (ext_trans HW2.out HX7.out))), fun e => absurd (HPP.out.symm.trans e) (by decide), Lib.hid (ext_trans HX7.out extA)⟩
        · first | rw [show decide (n.number > (h : Int) + 1) = false from decide_eq_false hq1] | rw [show decide ((h : Int) + 1 < n.number) = false from decide_eq_false hq1]
          by_cases hq2 : n.number = (h : Int) + 1
          · have t3 : (n.number == (h : Int) + 1) = true := by rw [hq2]; simp
            by_cases hq3 : l.length = 300
            · have t4 : ((l.length : Int) == 300) = true := by rw [hq3]; rfl
              have hE : addE l n = 2 := by unfold addE; rw [HH.out, if_neg hq1, if_pos ⟨hq2, hq3⟩]
              have hP := HPE.out.trans hE
              have HPP := Lib.hid hP
              have HPB := Lib.hid (post_err (l := l) (n := n) (by rw [hP]; decide)).2
              clear hq1 hq2 hq3 hE hP hhl hl3
              go_wp2_with fail
              go_meet
              exact ⟨by rw [HPP.out], by rw [HPB.out], a0, _, c0, l, rfl, Lib.hid (topR (HL.out _ (ext_trans HW2.out HX7.out))), fun e => absurd (HPP.out.symm.trans e) (by decide), Lib.hid (ext_trans HX7.out extA)⟩
            · have t4 : ((l.length : Int) == 300) = false := by rw [beq_eq_false_iff_ne]; omega
              have hE : addE l n = 0 := by unfold addE; rw [HH.out, if_neg hq1, if_neg (fun e => hq3 e.2)]
              obtain ⟨hb, hv⟩ := HPA.out hE
              have hB : addB l n = true := by unfold addB; rw [HH.out, decide_eq_true hq2, decide_eq_true hq3]; rfl
              have HPP := Lib.hid (HPE.out.trans hE)
              have HPB := Lib.hid (hb.trans hB)
              have HPV := Lib.hid (show l ++ [n] = postV l n by rw [hv]; unfold addV; rw [hB]; rfl)
              have hl1 : l.length ≤ 1000 := le1000 hl3
              have HL1 := Lib.hid hl1
              clear hq1 hq2 hq3 hE hB hb hv hhl hl3 hl1 HPA HPE
              obtain ⟨i0, hi0, hz0, hz1', hz2⟩ := info_parts info_noG
              have HJ := Lib.hid hi0
              have HZ0 := Lib.hid hz0
              have HZ1 := Lib.hid hz1'
              have HZ2 := Lib.hid hz2
              clear hi0 hz0 hz1' hz2
              go_upto_region 17 with fail
              refine wp_name (fun W5 eW5 => ?_)
              have x0 : W5.cell? ⟨w.heap.size, 0, none⟩ = some (.slice a0 l.length c0) := by rw [eW5]; go_simp
              have x1 : W5.cell? ⟨w.heap.size + 1, 0, none⟩ = some (.int .i64 n.site) := by rw [eW5]; go_simp
              have x2 : W5.cell? ⟨w.heap.size + 1, 1, none⟩ = some (.int .i64 n.number) := by rw [eW5]; go_simp
              have x3 : W5.cell? ⟨w.heap.size + 1, 2, none⟩ = some (.slice a1 n1 c1) := by rw [eW5]; go_simp
              have x4 : W5.cell? ⟨w.heap.size + 1, 3, none⟩ = some (.slice a2 n2 c2) := by rw [eW5]; go_simp
              have x5 : W5.cell? ⟨xb, 0, none⟩ = some (.slice a3 n3 c3) := by rw [eW5]; go_simp
              have HX5 := Lib.hid (show Ext W2 W5 by rw [eW5]; exact ext_trans HX7.out extA)
              have hw50 : w.heap.size < W5.heap.size := World.block_lt_of_cell? _ _ x0
              have hw5 : w.heap.size + 1 < W5.heap.size := World.block_lt_of_cell? _ _ x1
              have hs5 : w.heap.size ≤ W5.heap.size := by have := HX5.out.size; omega
              have HLB := Lib.hid (fun (W : World) (hx : Ext W5 W) => (RSl.more gNo (F := fun _ => True) (G := fun j => j < W5.heap.size) (fun _ _ h => h) (topR (HL.out W5 (ext_trans HW2.out HX5.out)))).ext gNo hx)
              have HNB := Lib.hid (fun (W : World) (hx : Ext W5 W) => gNo.ext (gNo.more (F := fun _ => True) (G := fun j => j < W5.heap.size) (fun _ _ h => h) (gNo.all (HN.out W5 (ext_trans HW2.out HX5.out)))) hx)
              clear eW5 HX7 hx7 t3 t4 y0 y1 y2 y3 y4 y5
              go_region_held3 (fun W => W.cell? ⟨w.heap.size, 0, none⟩ = some (.slice a0 l.length c0) ∧ W.cell? ⟨w.heap.size + 1, 0, none⟩ = some (.int .i64 n.site) ∧ W.cell? ⟨w.heap.size + 1, 1, none⟩ = some (.int .i64 n.number) ∧ W.cell? ⟨w.heap.size + 1, 2, none⟩ = some (.slice a1 n1 c1) ∧ W.cell? ⟨w.heap.size + 1, 3, none⟩ = some (.slice a2 n2 c2)) (first | (exact ⟨(HX9.out.cells _ _ hw50).trans x0, (HX9.out.cells _ _ hw5).trans x1, (HX9.out.cells _ _ hw5).trans x2, (HX9.out.cells _ _ hw5).trans x3, (HX9.out.cells _ _ hw5).trans x4⟩) | (exact ⟨(HX8.out.cells _ _ hw50).trans x0, (HX8.out.cells _ _ hw5).trans x1, (HX8.out.cells _ _ hw5).trans x2, (HX8.out.cells _ _ hw5).trans x3, (HX8.out.cells _ _ hw5).trans x4⟩) | (exact ⟨x0, x1, x2, x3, x4⟩) | go_keep) (first | ((refine step_appAll gNo rfl (.tmp 75) (.tmp 77) 36 rfl W5.heap.size 25 i0 _ 4 64 Try.underlying36 HJ.out HZ0.out HZ1.out HZ2.out rfl (by omega) (F := fun _ => True) (G := fun j => j < W5.heap.size) _ [] rfl (osl_emp extA (by first | rfl | simp) (by first | omega | (simp <;> omega))) (.slice a0 l.length c0) l rfl (HLB.out _ extA) one_noG (fun j hj _ => ⟨trivial, ne_own (by have hj' : j < W5.heap.size := hj; first | omega | (simp <;> omega))⟩) (noG_l0 HL1.out) (noG_b0 HL1.out) (by first | omega | (simp <;> omega)) ?_); intro v8 w8 hown8 hg8 hat8; have HX8 := Lib.hid (show Ext W5 w8 from ext_grow (show Ext W5 _ from extA) hg8 (fun j hj => (by have := own_eq hj; (try simp at this); omega))); have hsp8 := hg8.size; (try simp at hsp8); have hs8 : W5.heap.size ≤ w8.heap.size := HX8.out.size; have p0 := (HX8.out.cells (w.heap.size + 1) 0 hw5).trans x1; have p1 := (HX8.out.cells (w.heap.size + 1) 1 hw5).trans x2; have p2 := (HX8.out.cells (w.heap.size + 1) 2 hw5).trans x3; have p3 := (HX8.out.cells (w.heap.size + 1) 3 hw5).trans x4; (try (refine with_factG (T := w8.cell? ⟨W5.heap.size, 0, none⟩ = some (.int .i64 n.site)) ?_ (fun mc00 => ?_); (focus (refine Eq.trans (grown_cells hg8 (W5.heap.size) 0 ?_ ?_) ?_; (focus ((first | omega | (simp <;> omega)); done)); (focus ((first | omega | (simp <;> omega)); done)); (focus ((first | (with_reducible assumption) | go_simp); done)); done)))); (try (refine with_factG (T := w8.cell? ⟨W5.heap.size, 1, none⟩ = some (.int .i64 n.number)) ?_ (fun mc01 => ?_); (focus (refine Eq.trans (grown_cells hg8 (W5.heap.size) 1 ?_ ?_) ?_; (focus ((first | omega | (simp <;> omega)); done)); (focus ((first | omega | (simp <;> omega)); done)); (focus ((first | (with_reducible assumption) | go_simp); done)); done)))); (try (refine with_factG (T := w8.cell? ⟨W5.heap.size, 2, none⟩ = some (.slice a1 n1 c1)) ?_ (fun mc02 => ?_); (focus (refine Eq.trans (grown_cells hg8 (W5.heap.size) 2 ?_ ?_) ?_; (focus ((first | omega | (simp <;> omega)); done)); (focus ((first | omega | (simp <;> omega)); done)); (focus ((first | (with_reducible assumption) | go_simp); done)); done)))); (try (refine with_factG (T := w8.cell? ⟨W5.heap.size, 3, none⟩ = some (.slice a2 n2 c2)) ?_ (fun mc03 => ?_); (focus (refine Eq.trans (grown_cells hg8 (W5.heap.size) 3 ?_ ?_) ?_; (focus ((first | omega | (simp <;> omega)); done)); (focus ((first | omega | (simp <;> omega)); done)); (focus ((first | (with_reducible assumption) | go_simp); done)); done)))); (try (refine with_factG (T := w8.cell? ⟨W5.heap.size + 1, 0, none⟩ = some (.int .i64 n.site)) ?_ (fun mc10 => ?_); (focus (refine Eq.trans (grown_cells hg8 (W5.heap.size + 1) 0 ?_ ?_) ?_; (focus ((first | omega | (simp <;> omega)); done)); (focus ((first | omega | (simp <;> omega)); done)); (focus ((first | (with_reducible assumption) | go_simp); done)); done)))); (try (refine with_factG (T := w8.cell? ⟨W5.heap.size + 1, 1, none⟩ = some (.int .i64 n.number)) ?_ (fun mc11 => ?_); (focus (refine Eq.trans (grown_cells hg8 (W5.heap.size + 1) 1 ?_ ?_) ?_; (focus ((first | omega | (simp <;> omega)); done)); (focus ((first | omega | (simp <;> omega)); done)); (focus ((first | (with_reducible assumption) | go_simp); done)); done)))); (try (refine with_factG (T := w8.cell? ⟨W5.heap.size + 1, 2, none⟩ = some (.slice a1 n1 c1)) ?_ (fun mc12 => ?_); (focus (refine Eq.trans (grown_cells hg8 (W5.heap.size + 1) 2 ?_ ?_) ?_; (focus ((first | omega | (simp <;> omega)); done)); (focus ((first | omega | (simp <;> omega)); done)); (focus ((first | (with_reducible assumption) | go_simp); done)); done)))); (try (refine with_factG (T := w8.cell? ⟨W5.heap.size + 1, 3, none⟩ = some (.slice a2 n2 c2)) ?_ (fun mc13 => ?_); (focus (refine Eq.trans (grown_cells hg8 (W5.heap.size + 1) 3 ?_ ?_) ?_; (focus ((first | omega | (simp <;> omega)); done)); (focus ((first | omega | (simp <;> omega)); done)); (focus ((first | (with_reducible assumption) | go_simp); done)); done)))); obtain ⟨a8, n8, c8, rfl⟩ := osl_slice hown8; have HOL8 := Lib.hid (osl_lt hown8); have HO8 := Lib.hid (show OSl RNo 4 25 W5.heap.size (fun _ => True) w8 (.slice a8 n8 c8) l from hown8); have HB8 := Lib.hid (own_cases hat8); clear hg8 hat8 hown8) | ((refine step_appAll gNo rfl (.tmp 78) (.tmp 80) 36 rfl W5.heap.size 25 i0 _ 4 64 Try.underlying36 HJ.out HZ0.out HZ1.out HZ2.out rfl (by omega) (F := fun _ => True) (G := fun j => j < W5.heap.size ∨ j = W5.heap.size) (.slice a8 n8 c8) l rfl (osl_ext gNo HO8.out extA) (.slice (some ⟨W5.heap.size, 0, none⟩) 1 1) [n] rfl (rd_one rfl (rangeAt4G (by first | (with_reducible assumption) | go_simp) (by first | (with_reducible assumption) | go_simp) (by first | (with_reducible assumption) | go_simp) (by first | (with_reducible assumption) | go_simp)) (gNo.more (fun j hj _ => Or.inl hj) (HNB.out _ (ext_trans HX8.out extA))) (Or.inr rfl) (by first | omega | (simp <;> omega)) (Nat.le_refl _) (by unfold maxLen; omega)) one_noG (fun j hj _ => ⟨trivial, fun e => hj.elim (fun hj => by have := (HOL8.out j e.symm).1; omega) (fun hj => by have h2 := (HOL8.out j e.symm).2; have h1 := HB8.out j e.symm; (try simp at h1); omega)⟩) (noG_len HL1.out) (noG_byt HL1.out) (by first | omega | (simp <;> omega)) ?_); intro v9 w9 hown9 hg9 hat9; obtain ⟨a9, n9, c9, rfl⟩ := osl_slice hown9; have HX9 := Lib.hid (show Ext W5 w9 from ext_grow (ext_trans HX8.out extA) hg9 (fun j hj => (HOL8.out j hj).1)); clear hg9 hat9) | ((refine step_appAll gNo rfl (.tmp 78) (.tmp 80) 36 rfl W5.heap.size 25 i0 _ 4 64 Try.underlying36 HJ.out HZ0.out HZ1.out HZ2.out rfl (by omega) (F := fun _ => True) (G := fun j => j < W5.heap.size ∨ j = W5.heap.size + 1) (.slice a8 n8 c8) l rfl (osl_ext gNo HO8.out extA) (.slice (some ⟨W5.heap.size + 1, 0, none⟩) 1 1) [n] rfl (rd_one rfl (rangeAt4G (by first | (with_reducible assumption) | go_simp) (by first | (with_reducible assumption) | go_simp) (by first | (with_reducible assumption) | go_simp) (by first | (with_reducible assumption) | go_simp)) (gNo.more (fun j hj _ => Or.inl hj) (HNB.out _ (ext_trans HX8.out extA))) (Or.inr rfl) (by first | omega | (simp <;> omega)) (Nat.le_refl _) (by unfold maxLen; omega)) one_noG (fun j hj _ => ⟨trivial, fun e => hj.elim (fun hj => by have := (HOL8.out j e.symm).1; omega) (fun hj => by have h2 := (HOL8.out j e.symm).2; have h1 := HB8.out j e.symm; (try simp at h1); omega)⟩) (noG_len HL1.out) (noG_byt HL1.out) (by first | omega | (simp <;> omega)) ?_); intro v9 w9 hown9 hg9 hat9; obtain ⟨a9, n9, c9, rfl⟩ := osl_slice hown9; have HX9 := Lib.hid (show Ext W5 w9 from ext_grow (ext_trans HX8.out extA) hg9 (fun j hj => (HOL8.out j hj).1)); clear hg9 hat9) | ((refine step_appAll gNo rfl (.tmp 78) (.tmp 80) 36 rfl W5.heap.size 25 i0 _ 4 64 Try.underlying36 HJ.out HZ0.out HZ1.out HZ2.out rfl (by omega) (F := fun _ => True) (G := fun j => j < W5.heap.size ∨ j = w8.heap.size) (.slice a8 n8 c8) l rfl (osl_ext gNo HO8.out extA) (.slice (some ⟨w8.heap.size, 0, none⟩) 1 1) [n] rfl (rd_one rfl (rangeAt4G (by first | (with_reducible assumption) | go_simp) (by first | (with_reducible assumption) | go_simp) (by first | (with_reducible assumption) | go_simp) (by first | (with_reducible assumption) | go_simp)) (gNo.more (fun j hj _ => Or.inl hj) (HNB.out _ (ext_trans HX8.out extA))) (Or.inr rfl) (by first | omega | (simp <;> omega)) (Nat.le_refl _) (by unfold maxLen; omega)) one_noG (fun j hj _ => ⟨trivial, fun e => hj.elim (fun hj => by have := (HOL8.out j e.symm).1; omega) (fun hj => by have h2 := (HOL8.out j e.symm).2; have h1 := HB8.out j e.symm; (try simp at h1); omega)⟩) (noG_len HL1.out) (noG_byt HL1.out) (by first | omega | (simp <;> omega)) ?_); intro v9 w9 hown9 hg9 hat9; obtain ⟨a9, n9, c9, rfl⟩ := osl_slice hown9; have HX9 := Lib.hid (show Ext W5 w9 from ext_grow (ext_trans HX8.out extA) hg9 (fun j hj => (HOL8.out j hj).1)); clear hg9 hat9))
              all_goals (go_wp2_with fail; go_meet)
              all_goals exact ⟨by rw [HPP.out], by rw [HPB.out], a9, _, c9, l ++ [n], rfl, Lib.hid (osl_rsl gNo hown9 (fun _ _ _ => trivial) (fun _ _ => trivial)), fun _ => HPV.out, Lib.hid (ext_trans HX5.out HX9.out)⟩
          · have t3 : (n.number == (h : Int) + 1) = false := by rw [beq_eq_false_iff_ne]; exact hq2
            have hE : addE l n = 0 := by unfold addE; rw [HH.out, if_neg hq1, if_neg (fun e => hq2 e.1)]
            obtain ⟨hb, hv⟩ := HPA.out hE
            have hB : addB l n = false := by unfold addB; rw [HH.out, decide_eq_false hq2]; rfl
            have HPP := Lib.hid (HPE.out.trans hE)
            have HPB := Lib.hid (hb.trans hB)
            have HPV := Lib.hid (show l = postV l n by rw [hv]; unfold addV; rw [hB]; rfl)
            clear hq1 hq2 hE hB hb hv hhl hl3
            go_wp2_with fail
            go_meet
            exact ⟨by rw [HPP.out], by rw [HPB.out], a0, _, c0, l, rfl, Lib.hid (topR (HL.out _ (ext_trans HW2.out HX7.out))), fun _ => HPV.out, Lib.hid (ext_trans HX7.out extA)⟩
      · have t1 : (firstE l n == 0) = false := by simpa using hf
        obtain ⟨hE, hB⟩ := firstE_err hf
        have HE := Lib.hid hE
        have HB := Lib.hid hB
        have HF := Lib.hid hf
        clear hE hB hf
        go_wp2_with fail
        go_meet
        exact ⟨by rw [HE.out], by rw [HB.out], a0, _, c0, l, rfl, Lib.hid (topR (HL.out _ HW2.out)), fun e => absurd (HE.out.symm.trans e) HF.out, Lib.hid extA⟩
    case rest =>
      obtain ⟨rfl, rfl, ax, kx, cx, lw, rfl, HLW, hlw, HXD⟩ := hcut
      obtain ⟨W3, eW3⟩ : ∃ W : World, W = wc := ⟨wc, rfl⟩
      subst eW3
      have x0 := (HXD.out.cells (w.heap.size) 0 z3).trans y0
      have x1 := (HXD.out.cells (w.heap.size + 1) 0 z4).trans y1
      have x2 := (HXD.out.cells (w.heap.size + 1) 1 z4).trans y2
      have x3 := (HXD.out.cells (w.heap.size + 1) 2 z4).trans y3
      have x4 := (HXD.out.cells (w.heap.size + 1) 3 z4).trans y4
      have x5 := (HXD.out.cells (xb) 0 z5).trans y5
      have HW3 := Lib.hid (ext_trans HW2.out HXD.out)
      have HP3 := Lib.hid (HP.out.ext gNo (ext_trans HXC.out HXD.out))
      have HQ3 := Lib.hid (HQ.out.ext gNo (ext_trans HXC.out HXD.out))
      have v3 : w.heap.size < W3.heap.size := by have := HXD.out.size; omega
      have v4 : w.heap.size + 1 < W3.heap.size := by have := HXD.out.size; omega
      have v5 : xb < W3.heap.size := by have := HXD.out.size; omega
      clear y0 y1 y2 y3 y4 y5 z3 z4 z5 HXD HXC HW2 HW1 HP HQ HN
      go_upto_if 83 with fail
      go_cut [18] from 19 (fun s18 wx => ∃ (a : Option Addr) (k c : Nat), s18 = .slice a k c ∧ Hid (RSl RNo 4 (fun _ => True) wx (.slice a k c) (postV l n)) ∧ Hid (Ext W3 wx))
      case first =>
        by_cases hp : postE l n = 0
        · have t1 : (postE l n != 0) = false := by simp [hp]
          have HV := Lib.hid (show RSl RNo 4 (fun _ => True) W3 (.slice ax kx cx) (postV l n) by rw [← hlw hp]; exact HLW.out)
          clear hp hlw
          go_wp2_with fail
          go_meet
          exact ⟨ax, kx, cx, rfl, Lib.hid (HV.out.ext gNo extA), Lib.hid extA⟩
        · have t1 : (postE l n != 0) = true := by simpa using hp
          have HV := Lib.hid (post_err hp).1
          clear hp hlw
          go_wp2_with fail
          go_meet
          exact ⟨none, 0, 0, rfl, Lib.hid (by rw [HV.out]; exact RSl.nil_ (Nat.zero_le _)), Lib.hid extA⟩
      case rest => as_aux_lemma =>
        clear HLW hlw
        obtain ⟨ax, kx, cx, rfl, HLW, HXE⟩ := hcut
        obtain ⟨W4, eW4⟩ : ∃ W : World, W = wc := ⟨wc, rfl⟩
        subst eW4
        have y0 := (HXE.out.cells (w.heap.size) 0 v3).trans x0
        have y1 := (HXE.out.cells (w.heap.size + 1) 0 v4).trans x1
        have y2 := (HXE.out.cells (w.heap.size + 1) 1 v4).trans x2
        have y3 := (HXE.out.cells (w.heap.size + 1) 2 v4).trans x3
        have y4 := (HXE.out.cells (w.heap.size + 1) 3 v4).trans x4
        have y5 := (HXE.out.cells (xb) 0 v5).trans x5
        have HW4 := Lib.hid (ext_trans HW3.out HXE.out)
        have HP4 := Lib.hid (HP3.out.ext gNo HXE.out)
        have HQ4 := Lib.hid (HQ3.out.ext gNo HXE.out)
        have u3 : w.heap.size < W4.heap.size := by have := HXE.out.size; omega
        have u4 : w.heap.size + 1 < W4.heap.size := by have := HXE.out.size; omega
        have u5 : xb < W4.heap.size := by have := HXE.out.size; omega
        clear v3 v4 v5 HXE HW3 HP3 HQ3 x0 x1 x2 x3 x4 x5
        go_upto_region 20 with fail
        go_cut [104] (fun s wx => s = .bool (pbad l c m) ∧ Hid (Ext W4 wx))
        case first =>
          by_cases hl0 : checkLog l = 0
          · have t0 : (checkLog l == 0) = true := by simp [hl0]
            by_cases g1 : c < 0
            · have t1 : decide (c < 0) = true := decide_eq_true g1
              have HB := Lib.hid (pbad_c (c := c) (m := m) hl0 (by omega))
              clear g1 hl0
              go_wp2_with fail
              go_meet
              exact ⟨by rw [HB.out], Lib.hid extA⟩
            have t1 : decide (c < 0) = false := decide_eq_false g1
            by_cases g2 : (l.length : Int) < c
            · have t2 : decide ((l.length : Int) < c) = true := decide_eq_true g2
              have HB := Lib.hid (pbad_c (c := c) (m := m) hl0 (by omega))
              clear g1 g2 hl0
              go_wp2_with fail
              go_meet
              exact ⟨by rw [HB.out], Lib.hid extA⟩
            have t2 : decide ((l.length : Int) < c) = false := decide_eq_false g2
            by_cases g3 : m < 0
            · have t3 : decide (m < 0) = true := decide_eq_true g3
              have HB := Lib.hid (pbad_m (c := c) (m := m) hl0 (by omega))
              clear g1 g2 g3 hl0
              go_wp2_with fail
              go_meet
              exact ⟨by rw [HB.out], Lib.hid extA⟩
            have t3 : decide (m < 0) = false := decide_eq_false g3
            by_cases g4 : 300 < m
            · have t4 : decide (300 < m) = true := decide_eq_true g4
              have HB := Lib.hid (pbad_m (c := c) (m := m) hl0 (by omega))
              clear g1 g2 g3 g4 hl0
              go_wp2_with fail
              go_meet
              exact ⟨by rw [HB.out], Lib.hid extA⟩
            · have t4 : decide (300 < m) = false := decide_eq_false g4
              have HB := Lib.hid (pbad_ok (l := l) (c := c) (m := m) (by omega) (by omega))
              clear g1 g2 g3 g4 hl0
              go_wp2_with fail
              go_meet
              exact ⟨by rw [HB.out], Lib.hid extA⟩
          · have t1 : (checkLog l == 0) = false := by simpa using hl0
            have HB := Lib.hid (pbad_false (c := c) (m := m) hl0)
            clear hl0
            go_wp2_with fail
            go_meet
            exact ⟨by rw [HB.out], Lib.hid extA⟩
        case rest =>
          obtain ⟨rfl, HXG⟩ := hcut
          obtain ⟨W6, eW6⟩ : ∃ W : World, W = wc := ⟨wc, rfl⟩
          subst eW6
          have x0 := (HXG.out.cells (w.heap.size) 0 u3).trans y0
          have x1 := (HXG.out.cells (w.heap.size + 1) 0 u4).trans y1
          have x2 := (HXG.out.cells (w.heap.size + 1) 1 u4).trans y2
          have x3 := (HXG.out.cells (w.heap.size + 1) 2 u4).trans y3
          have x4 := (HXG.out.cells (w.heap.size + 1) 3 u4).trans y4
          have x5 := (HXG.out.cells (xb) 0 u5).trans y5
          have HW6 := Lib.hid (ext_trans HW4.out HXG.out)
          have HP6 := Lib.hid (HP4.out.ext gNo HXG.out)
          have HQ6 := Lib.hid (HQ4.out.ext gNo HXG.out)
          have HL6 := Lib.hid (HLW.out.ext gNo HXG.out)
          have v3 : w.heap.size < W6.heap.size := by have := HXG.out.size; omega
          have v4 : w.heap.size + 1 < W6.heap.size := by have := HXG.out.size; omega
          have v5 : xb < W6.heap.size := by have := HXG.out.size; omega
          clear u3 u4 u5 HXG HW4 HP4 HQ4 HLW y0 y1 y2 y3 y4 y5
          go_upto_if 104 with fail
          go_cut [16] from 20 (fun s wx => s = .int .i64 (pullE l c m) ∧ Hid (Ext W6 wx))
          case first =>
            cases hb : pbad l c m with
            | true =>
              have HE := Lib.hid (pullE_bad hb)
              clear hb
              go_wp2_with fail
              go_meet
              exact ⟨by rw [HE.out], Lib.hid extA⟩
            | false =>
              have HE := Lib.hid (pullE_ok hb)
              clear hb
              go_wp2_with fail
              go_meet
              exact ⟨by rw [HE.out], Lib.hid extA⟩
          case rest =>
            obtain ⟨rfl, HXI⟩ := hcut
            obtain ⟨W7, eW7⟩ : ∃ W : World, W = wc := ⟨wc, rfl⟩
            subst eW7
            have y0 := (HXI.out.cells (w.heap.size) 0 v3).trans x0
            have y1 := (HXI.out.cells (w.heap.size + 1) 0 v4).trans x1
            have y2 := (HXI.out.cells (w.heap.size + 1) 1 v4).trans x2
            have y3 := (HXI.out.cells (w.heap.size + 1) 2 v4).trans x3
            have y4 := (HXI.out.cells (w.heap.size + 1) 3 v4).trans x4
            have y5 := (HXI.out.cells (xb) 0 v5).trans x5
            have HW7 := Lib.hid (ext_trans HW6.out HXI.out)
            have HP7 := Lib.hid (HP6.out.ext gNo HXI.out)
            have HQ7 := Lib.hid (HQ6.out.ext gNo HXI.out)
            have HL7 := Lib.hid (HL6.out.ext gNo HXI.out)
            have u3 : w.heap.size < W7.heap.size := by have := HXI.out.size; omega
            have u4 : w.heap.size + 1 < W7.heap.size := by have := HXI.out.size; omega
            have u5 : xb < W7.heap.size := by have := HXI.out.size; omega
            have HLB := Lib.hid (fun (W : World) (hx : Ext W7 W) => (RSl.more gNo (F := fun _ => True) (G := fun j => j < W7.heap.size) (fun _ _ h => h) (topR (HL.out W7 HW7.out))).ext gNo hx)
            clear v3 v4 v5 HXI HW6 HP6 HQ6 HL6 x0 x1 x2 x3 x4 x5
            obtain ⟨i0, hi0, hz0, hz1', hz2⟩ := info_parts info_noG
            have HJ := Lib.hid hi0
            have HZ0 := Lib.hid hz0
            have HZ1 := Lib.hid hz1'
            have HZ2 := Lib.hid hz2
            clear hi0 hz0 hz1' hz2
            go_wp2_with fail
            go_loopw [20, 21] (fun ov iv wr => ∃ k : Nat, k ≤ (pullV l c m).length ∧ iv = .int .i64 k ∧ Hid (OSl RNo 4 25 W7.heap.size (fun _ => True) wr ov ((pullV l c m).take k)) ∧ Hid (Ext W7 wr)) (fun _ iv _ => (pullV l c m).length - (intOf iv).toNat)
            case atStart => exact ⟨0, Nat.zero_le _, rfl, Lib.hid osl_nil, Lib.hid extA⟩
            case round =>
              obtain ⟨k, hk, rfl, HO, HX⟩ := hrel
              have x0 := (HX.out.cells (w.heap.size) 0 u3).trans y0
              have x1 := (HX.out.cells (w.heap.size + 1) 0 u4).trans y1
              have x2 := (HX.out.cells (w.heap.size + 1) 1 u4).trans y2
              have x3 := (HX.out.cells (w.heap.size + 1) 2 u4).trans y3
              have x4 := (HX.out.cells (w.heap.size + 1) 3 u4).trans y4
              have x5 := (HX.out.cells (xb) 0 u5).trans y5
              have r3 : w.heap.size < wr.heap.size := by have := HX.out.size; omega
              have r4 : w.heap.size + 1 < wr.heap.size := by have := HX.out.size; omega
              have r5 : xb < wr.heap.size := by have := HX.out.size; omega
              have hzr := HX.out.size
              have HOL := Lib.hid (osl_lt HO.out)
              obtain ⟨a7, n7, c7, rfl⟩ := osl_slice HO.out
              clear u3 u4 u5 y0 y1 y2 y3 y4 y5
              by_cases hlt : k < (pullV l c m).length
              · have hk3 : k < 300 := Nat.lt_of_lt_of_le hlt pull_len
                obtain ⟨t1, t2, q, hwr, hqk, hqe⟩ := pull_in hlt
                obtain ⟨b, o, d, a5, n5, c5, a6, n6, c6, rfl, hb, ek, hd, q0, q1, q2, q3⟩ := note_at (HLB.out wr HX.out) hqk
                have HEK := Lib.hid (take_snocG (hqe.trans ek))
                have HD := Lib.hid hd
                have t3 : decide ((q : Int) < (l.length : Int)) = true := decide_eq_true (Int.ofNat_lt.2 hqk)
                obtain rfl : n7 = ((pullV l c m).take k).length := (osl_len HO.out).1
                have hfl : ((pullV l c m).take k).length ≤ 1000 := le1000 (Nat.le_trans (by rw [List.length_take]; exact Nat.min_le_right _ _) pull_len)
                generalize (pullV l c m).take k = fl at *
                clear hqe ek hd
                go_wp2_with (first | (at_builtin; go_must (refine wpList_appAll gNo rfl (.tmp 123) (.tmp 131) 36 rfl W7.heap.size 25 i0 _ 4 64 Try.underlying36 HJ.out HZ0.out HZ1.out HZ2.out rfl (by omega) (F := fun _ => True) (G := fun j => j < W7.heap.size ∨ j = wr.heap.size) (.slice a7 fl.length c7) fl rfl (osl_ext gNo HO.out extA) (.slice (some ⟨wr.heap.size, 0, none⟩) 1 1) [d] rfl (rd_one rfl (rangeAt4G (by first | (with_reducible assumption) | go_simp) (by first | (with_reducible assumption) | go_simp) (by first | (with_reducible assumption) | go_simp) (by first | (with_reducible assumption) | go_simp)) (gNo.more (fun j hj _ => Or.inl hj) (gNo.ext HD.out extA)) (Or.inr rfl) (by first | omega | (simp <;> omega)) (Nat.le_refl _) (by unfold maxLen; omega)) one_noG (fun j hj _ => ⟨trivial, fun e => hj.elim (fun hj => by have := (HOL.out j e.symm).1; omega) (fun hj => by have := (HOL.out j e.symm).2; omega)⟩) (noG_len hfl) (noG_byt hfl) (by first | omega | (simp <;> omega)) ?_; intro v9 w9 hown9 hg9 hat9; obtain ⟨a9, n9, c9, rfl⟩ := osl_slice hown9; have HX9 := Lib.hid (show Ext W7 w9 from ext_grow (ext_trans HX.out extA) hg9 (fun j hj => (HOL.out j hj).1)); clear hg9 hat9)))
                all_goals (try clear hwr)
                go_roundw
                case rel => exact ⟨k + 1, hlt, rfl, Lib.hid (by rw [HEK.out]; exact hown9), HX9⟩
                case measure => exact less_k3 hlt
              · have hke : k = (pullV l c m).length := Nat.le_antisymm hk (Nat.le_of_not_lt hlt)
                have HOV := Lib.hid (show RSl RNo 4 (fun _ => True) wr (.slice a7 n7 c7) (pullV l c m) from by have := HO.out; rw [hke, List.take_length] at this; exact osl_rsl gNo this (fun _ _ _ => trivial) (fun _ _ => trivial))
                have HWr := Lib.hid (ext_trans HW7.out HX.out)
                have HPr := Lib.hid (HP7.out.ext gNo HX.out)
                have HQr := Lib.hid (HQ7.out.ext gNo HX.out)
                have HLr := Lib.hid (HL7.out.ext gNo HX.out)
                have hq := pull_out hke
                have s1 : (checkLog l == checkLog l) = true := by simp
                have s2 : (postE l n == postE l n) = true := by simp
                have s3 : (postB l n == postB l n) = true := by simp
                have s4 : (pullE l c m == pullE l c m) = true := by simp
                clear hke hlt HO hk HP7 HQ7 HL7 HOL HLB HL
                rcases hq with t1 | ⟨t1, t2 | ⟨t2, t3⟩⟩
                all_goals
                  go_wp2_with (first | (go_at_call 19; go_must ((with_reducible refine (relayBegun_any _).mono ?_); rintro e w6 ⟨rfl, hx6⟩; have hz6 := hx6.size; (try simp at hz6); have hb6_0 : w.heap.size < w6.heap.size := (by omega); have hb6_1 : w.heap.size + 1 < w6.heap.size := (by omega); have hb6_2 : xb < w6.heap.size := (by omega); have c6_0 := (hx6.cells (w.heap.size) 0 (by first | omega | (simp <;> omega))).trans (show _ = some (.slice a0 l.length c0) by first | (with_reducible assumption) | go_simp); have c6_1 := (hx6.cells (w.heap.size + 1) 0 (by first | omega | (simp <;> omega))).trans (show _ = some (.int .i64 n.site) by first | (with_reducible assumption) | go_simp); have c6_2 := (hx6.cells (w.heap.size + 1) 1 (by first | omega | (simp <;> omega))).trans (show _ = some (.int .i64 n.number) by first | (with_reducible assumption) | go_simp); have c6_3 := (hx6.cells (w.heap.size + 1) 2 (by first | omega | (simp <;> omega))).trans (show _ = some (.slice a1 n1 c1) by first | (with_reducible assumption) | go_simp); have c6_4 := (hx6.cells (w.heap.size + 1) 3 (by first | omega | (simp <;> omega))).trans (show _ = some (.slice a2 n2 c2) by first | (with_reducible assumption) | go_simp); have c6_5 := (hx6.cells (xb) 0 (by first | omega | (simp <;> omega))).trans (show _ = some (.slice a3 n3 c3) by first | (with_reducible assumption) | go_simp); have HX6 := Lib.hid (show Ext wr w6 from ext_trans (extA) hx6))) | (go_at_call 20; go_must ((with_reducible refine (HCP.out _ (ext_trans HWr.out (ext_trans HX6.out extA))).mono ?_); rintro e w7 ⟨rfl, hx7⟩; have hz7 := hx7.size; (try simp at hz7); have hb7_0 : w.heap.size < w7.heap.size := (by omega); have hb7_1 : w.heap.size + 1 < w7.heap.size := (by omega); have hb7_2 : xb < w7.heap.size := (by omega); have c7_0 := (hx7.cells (w.heap.size) 0 (by first | omega | (simp <;> omega))).trans (show _ = some (.slice a0 l.length c0) by first | (with_reducible assumption) | go_simp); have c7_1 := (hx7.cells (w.heap.size + 1) 0 (by first | omega | (simp <;> omega))).trans (show _ = some (.int .i64 n.site) by first | (with_reducible assumption) | go_simp); have c7_2 := (hx7.cells (w.heap.size + 1) 1 (by first | omega | (simp <;> omega))).trans (show _ = some (.int .i64 n.number) by first | (with_reducible assumption) | go_simp); have c7_3 := (hx7.cells (w.heap.size + 1) 2 (by first | omega | (simp <;> omega))).trans (show _ = some (.slice a1 n1 c1) by first | (with_reducible assumption) | go_simp); have c7_4 := (hx7.cells (w.heap.size + 1) 3 (by first | omega | (simp <;> omega))).trans (show _ = some (.slice a2 n2 c2) by first | (with_reducible assumption) | go_simp); have c7_5 := (hx7.cells (xb) 0 (by first | omega | (simp <;> omega))).trans (show _ = some (.slice a3 n3 c3) by first | (with_reducible assumption) | go_simp); have HX7 := Lib.hid (show Ext wr w7 from ext_trans (ext_trans HX6.out extA) hx7))) | (go_at_call 21; ((with_reducible refine (sameNotes_any (HPr.out.ext gNo (ext_trans HX7.out extA)) (HLr.out.ext gNo (ext_trans HX7.out extA))).mono ?_); rintro e w8 ⟨rfl, hx8⟩; have hz8 := hx8.size; (try simp at hz8); have hb8_0 : w.heap.size < w8.heap.size := (by omega); have hb8_1 : w.heap.size + 1 < w8.heap.size := (by omega); have hb8_2 : xb < w8.heap.size := (by omega); have c8_0 := (hx8.cells (w.heap.size) 0 (by first | omega | (simp <;> omega))).trans (show _ = some (.slice a0 l.length c0) by first | (with_reducible assumption) | go_simp); have c8_1 := (hx8.cells (w.heap.size + 1) 0 (by first | omega | (simp <;> omega))).trans (show _ = some (.int .i64 n.site) by first | (with_reducible assumption) | go_simp); have c8_2 := (hx8.cells (w.heap.size + 1) 1 (by first | omega | (simp <;> omega))).trans (show _ = some (.int .i64 n.number) by first | (with_reducible assumption) | go_simp); have c8_3 := (hx8.cells (w.heap.size + 1) 2 (by first | omega | (simp <;> omega))).trans (show _ = some (.slice a1 n1 c1) by first | (with_reducible assumption) | go_simp); have c8_4 := (hx8.cells (w.heap.size + 1) 3 (by first | omega | (simp <;> omega))).trans (show _ = some (.slice a2 n2 c2) by first | (with_reducible assumption) | go_simp); have c8_5 := (hx8.cells (xb) 0 (by first | omega | (simp <;> omega))).trans (show _ = some (.slice a3 n3 c3) by first | (with_reducible assumption) | go_simp); have HX8 := Lib.hid (show Ext wr w8 from ext_trans (ext_trans HX7.out extA) hx8); clear HLr)) | (go_at_call 21; go_must ((with_reducible refine (sameNotes_any (HQr.out.ext gNo (ext_trans HX8.out extA)) (HOV.out.ext gNo (ext_trans HX8.out extA))).mono ?_); rintro e w9 ⟨rfl, hx9⟩; have HX9 := Lib.hid (show Ext wr w9 from ext_trans (ext_trans HX8.out extA) hx9))))
                  go_ret
                  exact ⟨rfl, ext_trans HWr.out (ext_trans HX9.out extA)⟩
end Go.Proofs.Ytiladkinndgeaaa
