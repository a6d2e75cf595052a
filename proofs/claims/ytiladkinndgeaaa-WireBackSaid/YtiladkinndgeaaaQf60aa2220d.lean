/- The document's reader: a mark. -/
import Derived.Test.YtiladkinndgeaaaQ4aef7ed03e
import Derived.Deep.RegionHeld3
import Derived.Test.YtiladkinndgeaaaQa28958c9c8
import Derived.Deep.DeepCutAuto
set_option linter.unusedVariables false
set_option linter.unusedSimpArgs false
namespace Go.Proofs.Ytiladkinndgeaaa
open Go Go.RowKit Go.BigFrame Cp

set_option maxRecDepth 100000 in
set_option maxHeartbeats 4000000 in
theorem markT_any {w : World} {b : Nat} {S : ByteArray} {r : PS} (h : TkAt b S r w) :
    Calls Try.prog 56 #[.pointer (some ⟨b, 0, none⟩)] w (IsMkT b S (markR r) w) := by
  have hb := tkAt_lt h
  have hrb : w.heap.size ≠ b := by omega
  have HR := Lib.hid h
  obtain ⟨n, hn, hn5⟩ := one_nat r
  have HN1 := Lib.hid (fun (W : World) (h : TkAt b S r W) => (one_any h).mono (R' := fun e w' => e = .returned (.int .i64 (n : Int)) ∧ TkAt b S (oneR r).2 w' ∧ Kept (But b) W w') (fun e w' ⟨h1, h2, h3⟩ => ⟨by rw [h1, hn], h2, h3⟩))
  obtain ⟨tm, htm⟩ : ∃ x, x = timesP stpR n (oneR r).2 := ⟨_, rfl⟩
  have HP := Lib.hid (show markR r = ((tm.1, (twoR tm.2).1), (twoR tm.2).2) by unfold markR; simp only; rw [hn, Int.toNat_natCast, htm])
  have HTM := Lib.hid htm
  clear h hn htm
  go_enter Try.func56, Try.ntmps56
  go_upto_region 2 with fail
  refine wp_name (fun W1 eW1 => ?_)
  have r0 : W1.cell? ⟨w.heap.size, 0, none⟩ = some (.slice none 0 0) := by rw [eW1]; go_simp
  have r1 : W1.cell? ⟨w.heap.size, 1, none⟩ = some (.int .i64 0) := by rw [eW1]; go_simp
  have g0 : W1.frozen? ⟨w.heap.size, 0, none⟩ = false := by rw [eW1]; go_simp
  have g1 : W1.frozen? ⟨w.heap.size, 1, none⟩ = false := by rw [eW1]; go_simp
  have q0 : W1.cell? ⟨w.heap.size + 1, 0, none⟩ = some (.slice none 0 0) := by rw [eW1]; go_simp
  have q1 : W1.cell? ⟨w.heap.size + 1, 1, none⟩ = some (.int .i64 0) := by rw [eW1]; go_simp
  have f0 : W1.frozen? ⟨w.heap.size + 1, 0, none⟩ = false := by rw [eW1]; go_simp
  have f1 : W1.frozen? ⟨w.heap.size + 1, 1, none⟩ = false := by rw [eW1]; go_simp
  have HX1 := Lib.hid (show Ext w W1 by rw [eW1]; exact extA)
  have hs1 : W1.heap.size = w.heap.size + 1 + 1 := by rw [eW1]; simp
  clear eW1
  generalize hqe : w.heap.size + 1 = q at *
  have hqb : q ≠ b := by omega
  have HT0 := Lib.hid (show TInv W1 q b q S [] r W1 from ⟨tkAt_ext HR.out HX1.out, q1, ⟨f0, f1⟩, ⟨_, q0, osl_nil⟩, kept_refl, by omega, Nat.le_refl _⟩)
  clear q0 q1 f0 f1
  go_wp2_with (first | (go_at_call 35; go_must ((with_reducible refine (HN1.out _ HT0.out.rd).mono ?_); rintro e w2 ⟨rfl, hr2', hk2'⟩; have hr2 := Lib.hid hr2'; have hk2 := Lib.hid hk2'; clear hr2' hk2')))
  refine wp_name (fun W2 eW2 => ?_)
  have HT2 := Lib.hid (show TInv W1 q b q S [] (oneR r).2 W2 by rw [eW2]; exact tinv_ext (tinv_kept HT0.out hk2.out hr2.out) extA)
  clear eW2 HT0 HN1 hk2 hr2
  generalize (oneR r).2 = r2 at *
  obtain ⟨i0, hi0, hz0, hz1', hz2⟩ := info_parts info_step
  have HJ := Lib.hid hi0
  have HZ0 := Lib.hid hz0
  have HZ1 := Lib.hid hz1'
  have HZ2 := Lib.hid hz2
  clear hi0 hz0 hz1' hz2
  go_loopw [5] (fun iv wr => ∃ (k m : Nat) (l : List Stp) (r' : PS), k + m = n ∧ l.length = k ∧ iv = .int .i64 k ∧ Hid (TInv W1 q b q S l r' wr) ∧ Hid (l ++ (timesP stpR m r').1 = tm.1 ∧ (timesP stpR m r').2 = tm.2)) (fun iv _ => n - (intOf iv).toNat)
  case atStart => exact ⟨0, n, [], r2, by omega, rfl, rfl, HT2, Lib.hid ⟨by rw [HTM.out]; rfl, by rw [HTM.out]⟩⟩
  case round =>
    obtain ⟨k, m, l, r', hkm, hlk, rfl, HI', HQ⟩ := hrel
    have hk255 : k ≤ 255 := by omega
    have HL0 := Lib.hid hlk
    clear hlk
    obtain ⟨_, _, _, hbad, _⟩ := HI'.out.rd
    have hbw : b < wr.heap.size := World.block_lt_of_cell? _ _ hbad
    cases m with
    | zero =>
      obtain ⟨e1, e2⟩ := HQ.out
      rw [times_zero, List.append_nil] at e1
      rw [times_zero] at e2
      have HV := Lib.hid (show TInv W1 q b q S tm.1 tm.2 wr by rw [← e1, ← e2]; exact HI'.out)
      have t1 : decide ((k : Int) < (n : Int)) = false := decide_eq_false (by omega)
      have t2 : decide (k < n) = false := decide_eq_false (by omega)
      clear e1 e2 HQ HI' hbad
      have HN2 := Lib.hid (two_anyR HV.out.rd)
      obtain ⟨_, v3, ⟨v4, v5⟩, ⟨u, v6, v7⟩, v8, _⟩ := HV.out
      have x0 := (v8.cell (show w.heap.size < q ∧ w.heap.size ≠ b from ⟨by omega, hrb⟩) (by omega) 0).trans r0
      have x1 := (v8.cell (show w.heap.size < q ∧ w.heap.size ≠ b from ⟨by omega, hrb⟩) (by omega) 1).trans r1
      have y0 := (v8.frz (show w.heap.size < q ∧ w.heap.size ≠ b from ⟨by omega, hrb⟩) (by omega) 0).trans g0
      have y1 := (v8.frz (show w.heap.size < q ∧ w.heap.size ≠ b from ⟨by omega, hrb⟩) (by omega) 1).trans g1
      have HO := Lib.hid v7
      obtain ⟨a3, n3, c3, rfl⟩ := osl_slice v7
      have HI := Lib.hid (two_i64 tm.2)
      have hqw : q < wr.heap.size := World.block_lt_of_cell? _ _ v3
      have hrw : w.heap.size < wr.heap.size := World.block_lt_of_cell? _ _ x0
      have H8 := Lib.hid v8
      clear v7 v8
      generalize twoR tm.2 = cl at *
      go_wp2_with (first | (go_at_call 36; go_must ((with_reducible refine (HN2.out).mono ?_); rintro e w5 ⟨rfl, hr5', hk5'⟩; have hr5 := Lib.hid hr5'; have hk5 := Lib.hid hk5'; have a0 := (hk5'.cell hqb hqw 0).trans v6; have a1 := (hk5'.cell hqb hqw 1).trans v3; have b0 := (hk5'.frz hqb hqw 0).trans v4; have b1 := (hk5'.frz hqb hqw 1).trans v5; have c0 := (hk5'.cell hrb hrw 0).trans x0; have c1 := (hk5'.cell hrb hrw 1).trans x1; have d0 := (hk5'.frz hrb hrw 0).trans y0; have d1 := (hk5'.frz hrb hrw 1).trans y1; have hs5 := hk5'.size; have hrq : ¬ w.heap.size = q := (by omega); have hqr : ¬ q = w.heap.size := (by omega); clear hr5' hk5')))
      refine body_name (fun W9 hW9 => ?_)
      have z0 : W9.cell? ⟨w.heap.size, 0, none⟩ = some (.slice a3 n3 c3) := by rw [hW9]; go_simp
      have z1 : W9.cell? ⟨w.heap.size, 1, none⟩ = some (.int .i64 cl.1) := by rw [hW9]; go_simp
      have hk9 : ∀ Z : Nat → Prop, ¬ Z q → ¬ Z w.heap.size → Kept Z w5 W9 := by intro Z zq zr; rw [hW9]; exact kept_set (p := ⟨w.heap.size, 1, none⟩) (kept_set (p := ⟨w.heap.size, 0, none⟩) (kept_set (p := ⟨q, 1, none⟩) kept_refl zq _) zr _) zr _
      clear hW9
      have ho5 := osl_keptS HO.out hk5.out (show b < q + 1 by omega)
      refine bodyPost_ret (v := .agg #[.slice a3 n3 c3, .int .i64 cl.1]) (by simp [results, Try.results56, go_sem, z0, z1]) rfl ?_
      rw [HP.out]
      refine ⟨_, rfl, ⟨_, rfl, ?_, HI.out⟩, tkAt_keptB hr5.out (hk9 (fun k => k = b) hqb hrb), ?_⟩
      · have ho9 := osl_lkeep lf_stp ho5 (w' := W9) (fun k hk => (hk9 (fun k => q < k) (by omega) (by omega)).block k (osl_lt ho5 k hk).1 (osl_lt ho5 k hk).2)
        exact RSl.more gStp (fun k hk _ => by have hk' : q + 1 ≤ k := hk; show w.heap.size ≤ k; omega) (osl_rsl gStp (osl_any leaf_stp (G := fun k => q + 1 ≤ k) ho9) (fun k hk _ => hk) (fun k hk => hk))
      · exact kept_lt (kept_trans ((kept_ext HX1.out).less (fun _ h => h)) (kept_trans (H8.out.less (fun k hk => ⟨by have := hk.1; omega, hk.2⟩)) (kept_trans (hk5.out.less (fun k hk => hk.2)) (hk9 _ (fun h => by have := h.1; omega) (fun h => by have := h.1; omega)))))
    | succ m =>
      have t1 : decide ((k : Int) < (n : Int)) = true := decide_eq_true (by omega)
      have t2 : decide (k < n) = true := decide_eq_true (by omega)
      cases hr : r'.2 with
      | true =>
        obtain ⟨e1, e2⟩ := HQ.out
        rw [times_bad hr, List.append_nil] at e1
        rw [times_bad hr] at e2
        have HV := Lib.hid (show TInv W1 q b q S tm.1 tm.2 wr by rw [← e1, ← e2]; exact HI'.out)
        rw [hr] at hbad
        clear e1 e2 HQ HI' hr
        have HN2 := Lib.hid (two_anyR HV.out.rd)
        obtain ⟨_, v3, ⟨v4, v5⟩, ⟨u, v6, v7⟩, v8, _⟩ := HV.out
        have x0 := (v8.cell (show w.heap.size < q ∧ w.heap.size ≠ b from ⟨by omega, hrb⟩) (by omega) 0).trans r0
        have x1 := (v8.cell (show w.heap.size < q ∧ w.heap.size ≠ b from ⟨by omega, hrb⟩) (by omega) 1).trans r1
        have y0 := (v8.frz (show w.heap.size < q ∧ w.heap.size ≠ b from ⟨by omega, hrb⟩) (by omega) 0).trans g0
        have y1 := (v8.frz (show w.heap.size < q ∧ w.heap.size ≠ b from ⟨by omega, hrb⟩) (by omega) 1).trans g1
        have HO := Lib.hid v7
        obtain ⟨a3, n3, c3, rfl⟩ := osl_slice v7
        have HI := Lib.hid (two_i64 tm.2)
        have hqw : q < wr.heap.size := World.block_lt_of_cell? _ _ v3
        have hrw : w.heap.size < wr.heap.size := World.block_lt_of_cell? _ _ x0
        have H8 := Lib.hid v8
        clear v7 v8
        generalize twoR tm.2 = cl at *
        go_wp2_with (first | (go_at_call 36; go_must ((with_reducible refine (HN2.out).mono ?_); rintro e w5 ⟨rfl, hr5', hk5'⟩; have hr5 := Lib.hid hr5'; have hk5 := Lib.hid hk5'; have a0 := (hk5'.cell hqb hqw 0).trans v6; have a1 := (hk5'.cell hqb hqw 1).trans v3; have b0 := (hk5'.frz hqb hqw 0).trans v4; have b1 := (hk5'.frz hqb hqw 1).trans v5; have c0 := (hk5'.cell hrb hrw 0).trans x0; have c1 := (hk5'.cell hrb hrw 1).trans x1; have d0 := (hk5'.frz hrb hrw 0).trans y0; have d1 := (hk5'.frz hrb hrw 1).trans y1; have hs5 := hk5'.size; have hrq : ¬ w.heap.size = q := (by omega); have hqr : ¬ q = w.heap.size := (by omega); clear hr5' hk5')))
        refine body_name (fun W9 hW9 => ?_)
        have z0 : W9.cell? ⟨w.heap.size, 0, none⟩ = some (.slice a3 n3 c3) := by rw [hW9]; go_simp
        have z1 : W9.cell? ⟨w.heap.size, 1, none⟩ = some (.int .i64 cl.1) := by rw [hW9]; go_simp
        have hk9 : ∀ Z : Nat → Prop, ¬ Z q → ¬ Z w.heap.size → Kept Z w5 W9 := by intro Z zq zr; rw [hW9]; exact kept_set (p := ⟨w.heap.size, 1, none⟩) (kept_set (p := ⟨w.heap.size, 0, none⟩) (kept_set (p := ⟨q, 1, none⟩) kept_refl zq _) zr _) zr _
        clear hW9
        have ho5 := osl_keptS HO.out hk5.out (show b < q + 1 by omega)
        refine bodyPost_ret (v := .agg #[.slice a3 n3 c3, .int .i64 cl.1]) (by simp [results, Try.results56, go_sem, z0, z1]) rfl ?_
        rw [HP.out]
        refine ⟨_, rfl, ⟨_, rfl, ?_, HI.out⟩, tkAt_keptB hr5.out (hk9 (fun k => k = b) hqb hrb), ?_⟩
        · have ho9 := osl_lkeep lf_stp ho5 (w' := W9) (fun k hk => (hk9 (fun k => q < k) (by omega) (by omega)).block k (osl_lt ho5 k hk).1 (osl_lt ho5 k hk).2)
          exact RSl.more gStp (fun k hk _ => by have hk' : q + 1 ≤ k := hk; show w.heap.size ≤ k; omega) (osl_rsl gStp (osl_any leaf_stp (G := fun k => q + 1 ≤ k) ho9) (fun k hk _ => hk) (fun k hk => hk))
        · exact kept_lt (kept_trans ((kept_ext HX1.out).less (fun _ h => h)) (kept_trans (H8.out.less (fun k hk => ⟨by have := hk.1; omega, hk.2⟩)) (kept_trans (hk5.out.less (fun k hk => hk.2)) (hk9 _ (fun h => by have := h.1; omega) (fun h => by have := h.1; omega)))))
      | false =>
        rw [hr] at hbad
        have HQ' := Lib.hid (show (l ++ [(stpR r').1]) ++ (timesP stpR m (stpR r').2).1 = tm.1 ∧ (timesP stpR m (stpR r').2).2 = tm.2 by
          have := HQ.out
          rw [times_good hr] at this
          exact ⟨by rw [← this.1]; simp, this.2⟩)
        have HSP := Lib.hid (show stpR r' = (((oneR r').1, (oneR (oneR r').2).1), (oneR (oneR r').2).2) from rfl)
        have HO1 := Lib.hid (one_any HI'.out.rd)
        have HO2 := Lib.hid (fun (W : World) (h : TkAt b S (oneR r').2 W) => one_any h)
        have HIX := Lib.hid (one_i64 r')
        have HIY := Lib.hid (one_i64 (oneR r').2)
        have HLK := Lib.hid (show l.length ≤ 500 by have := HL0.out; omega)
        have HNX := Lib.hid (show k + 1 + m = n ∧ (l ++ [(stpR r').1]).length = k + 1 by refine ⟨by omega, by rw [List.length_append, HL0.out]; rfl⟩)
        have hqw := World.block_lt_of_cell? _ _ HI'.out.ck
        clear hr HQ hkm
        generalize oneR (oneR r').2 = y at *
        generalize oneR r' = x at *
        go_wp2_with (first | (go_at_call 35; ((with_reducible refine (HO1.out).mono ?_); rintro e w6 ⟨rfl, h6⟩; have h6k := Lib.hid h6.2; have h6r := Lib.hid h6.1; clear h6 HO1)) | (go_at_call 35; go_must ((with_reducible refine (HO2.out _ h6r.out).mono ?_); rintro e w7 ⟨rfl, h7⟩; have HT7 := Lib.hid (tinv_kept HI'.out (kept_trans h6k.out h7.2) h7.1); obtain ⟨_, _, ⟨s4, _⟩, ⟨u7, s6, s7⟩, _, _⟩ := HT7.out; have HO7 := Lib.hid s7; obtain ⟨a3, n3, c3, rfl⟩ := osl_slice s7; obtain rfl := (osl_len s7).1; have hq7 : q < w7.heap.size := World.block_lt_of_cell? _ _ s6; have hqn : ¬ q = w7.heap.size := (by omega); clear h7 s7 h6k h6r)) | (at_builtin; go_must (refine wpList_appAll gStp rfl (.tmp 27) (.tmp 31) 54 rfl (q + 1) 96 i0 _ 2 16 Try.underlying54 HJ.out HZ0.out HZ1.out HZ2.out rfl (by omega) (F := fun _ => True) (G := fun j => j = w7.heap.size) (.slice a3 l.length c3) l rfl (osl_ext gStp HO7.out extA) (.slice (some ⟨w7.heap.size, 0, none⟩) 1 1) [(x.1, y.1)] rfl (rd_one rfl (rangeAt2 (by first | (with_reducible assumption) | go_simp) (by first | (with_reducible assumption) | go_simp)) (show RStp _ _ [_, _] (x.1, y.1) from ⟨rfl, HIX.out, HIY.out⟩) rfl (by first | omega | (simp <;> omega)) (Nat.le_refl _) (by unfold maxLen; omega)) one_stp (fun j hj _ => ⟨trivial, fun e => by have := (osl_lt HO7.out j e.symm).2; omega⟩) (stp_len HLK.out) (stp_byt HLK.out) (by first | omega | (simp <;> omega)) ?_; intro v9 w9 hown9 hg9 hat9; obtain ⟨a9, n9, c9, rfl⟩ := osl_slice hown9; have HFIN := Lib.hid (tinv_store HT7.out HO7.out hg9 extA hown9); obtain ⟨hc9, hf9⟩ := own_cell HO7.out s6 s4 hg9 extA; clear hg9 hat9 hown9)))
        go_roundw
        case rel => exact ⟨k + 1, m, l ++ [(stpR r').1], (stpR r').2, HNX.out.1, HNX.out.2, by go_num, Lib.hid (by rw [HSP.out]; exact HFIN.out), HQ'⟩
        case measure => have := HNX.out.1; simp [intOf]; omega
end Go.Proofs.Ytiladkinndgeaaa
/- The document's reader: a deed. -/
namespace Go.Proofs.Ytiladkinndgeaaa
open Go Go.RowKit Go.BigFrame Cp

theorem tk_bad {b : Nat} {S : ByteArray} {r : PS} {w : World} (h : TkAt b S r w) : TkAt b S (r.1, true) (w.setCell ⟨b, 2, none⟩ (.bool true)) := by
  obtain ⟨i, h0, h1, h2, h3, h4, h5, h6, h7⟩ := h
  exact ⟨i, by go_simp, by go_simp, by go_simp, h3, h4, by go_simp, by go_simp, h7⟩
def IsDeT (b : Nat) (S : ByteArray) (x : De × PS) (w : World) (e : Ending) (w' : World) : Prop := ∃ cs, e = .returned (.agg (cs : List Value).toArray) ∧ RDe (fun k => w.heap.size ≤ k) w' cs x.1 ∧ TkAt b S x.2 w' ∧ Kept (But b) w w'
theorem deedR_short {r mm nn x} (hx : x = oneR r) (h1 : x.1 = 1) (hm : mm = markR x.2) (hn : nn = oneR mm.2) (hb : nn.2.2 = true ∨ (nn.2.1.length : Int) < nn.1) : deedR r = (⟨1, (mm.1, []), ([], 0), 0⟩, (nn.2.1, true)) := by
  subst hx hm hn
  unfold deedR
  simp only
  rw [if_pos h1, if_pos hb, h1]
theorem deedR_put {r mm nn x} (hx : x = oneR r) (h1 : x.1 = 1) (hm : mm = markR x.2) (hn : nn = oneR mm.2) (hb : ¬ (nn.2.2 = true ∨ (nn.2.1.length : Int) < nn.1)) : deedR r = (⟨1, (mm.1, nn.2.1.take nn.1.toNat), ([], 0), 0⟩, (nn.2.1.drop nn.1.toNat, nn.2.2)) := by
  subst hx hm hn
  unfold deedR
  simp only
  rw [if_pos h1, if_neg hb, h1]
theorem deedR_take {r mm nn x} (hx : x = oneR r) (h1 : ¬ x.1 = 1) (hm : mm = markR (x.2.1, if x.1 = 2 then x.2.2 else true)) (hn : nn = oneR mm.2) : deedR r = (⟨x.1, (([], 0), []), mm.1, nn.1⟩, nn.2) := by
  subst hx hm hn
  unfold deedR
  simp only
  rw [if_neg h1]
set_option maxRecDepth 100000 in
set_option maxHeartbeats 4000000 in
theorem deedT2_any {w : World} {b : Nat} {S : ByteArray} {r : PS} {x : Int × PS} (h : TkAt b S r w) (hx : x = oneR r) (h1 : ¬ x.1 = 1) (h2 : x.1 = 2) :
    Calls Try.prog 37 #[.pointer (some ⟨b, 0, none⟩)] w (IsDeT b S (deedR r) w) := by
  have hb := tkAt_lt h
  have hrb : w.heap.size ≠ b := by omega
  have HR := Lib.hid h
  have HN1 := Lib.hid (fun (W : World) (h : TkAt b S r W) => one_any h)
  have HIK := Lib.hid (one_i64 r)
  rw [← hx] at HN1 HIK
  obtain ⟨k0, kr⟩ := x
  simp only at HIK h1 h2
  have HX := Lib.hid hx
  clear h hx
  have t1 : (k0 == 1) = false := by rw [h2]; rfl
  have t2 : (k0 != 2) = false := by rw [h2]; rfl
  obtain ⟨mm, hmm⟩ : ∃ x, x = markR kr := ⟨_, rfl⟩
  obtain ⟨nn, hnn⟩ : ∃ x, x = oneR mm.2 := ⟨_, rfl⟩
  have HIN := Lib.hid (show I64 nn.1 from hnn ▸ one_i64 mm.2)
  have HP := Lib.hid (show deedR r = (⟨2, (([], 0), []), mm.1, nn.1⟩, nn.2) by have := deedR_take HX.out h1 (mm := mm) (by rw [hmm]; simp [h2]) hnn; rw [this, h2])
  have HMK := Lib.hid (fun (W : World) (h : TkAt b S kr W) => (hmm ▸ markT_any h : Calls _ _ _ _ (IsMkT b S mm W)))
  have HN2 := Lib.hid (fun (W : World) (h : TkAt b S mm.2 W) => (hnn ▸ one_any h : Calls _ _ _ _ (IsOne b S nn W)))
  clear HX hmm hnn h1
  subst h2
  go_enter Try.func37, Try.ntmps37
  go_wp2_with (first | (go_at_call 35; ((with_reducible refine (HN1.out _ (tkAt_ext HR.out extA)).mono ?_); rintro e w1 ⟨rfl, hr1, hk1⟩; have hl1 : w.heap.size < w1.heap.size := Nat.lt_of_lt_of_le (by first | omega | (simp <;> omega)) hk1.size; have hdb : w1.heap.size ≠ b := (by omega); have hrd : ¬ w.heap.size = w1.heap.size := (by omega); have nr0 := (hk1.cell hrb (by first | omega | (simp <;> omega)) 0).trans (show _ = some (.int .i64 0) by first | (with_reducible assumption) | go_simp); have nfr0 := (hk1.frz hrb (by first | omega | (simp <;> omega)) 0).trans (show _ = false by first | (with_reducible assumption) | go_simp); have nr1 := (hk1.cell hrb (by first | omega | (simp <;> omega)) 1).trans (show _ = some (.slice none 0 0) by first | (with_reducible assumption) | go_simp); have nfr1 := (hk1.frz hrb (by first | omega | (simp <;> omega)) 1).trans (show _ = false by first | (with_reducible assumption) | go_simp); have nr2 := (hk1.cell hrb (by first | omega | (simp <;> omega)) 2).trans (show _ = some (.int .i64 0) by first | (with_reducible assumption) | go_simp); have nfr2 := (hk1.frz hrb (by first | omega | (simp <;> omega)) 2).trans (show _ = false by first | (with_reducible assumption) | go_simp); have nr3 := (hk1.cell hrb (by first | omega | (simp <;> omega)) 3).trans (show _ = some (.string ⟨#[]⟩) by first | (with_reducible assumption) | go_simp); have nfr3 := (hk1.frz hrb (by first | omega | (simp <;> omega)) 3).trans (show _ = false by first | (with_reducible assumption) | go_simp); have nr4 := (hk1.cell hrb (by first | omega | (simp <;> omega)) 4).trans (show _ = some (.slice none 0 0) by first | (with_reducible assumption) | go_simp); have nfr4 := (hk1.frz hrb (by first | omega | (simp <;> omega)) 4).trans (show _ = false by first | (with_reducible assumption) | go_simp); have nr5 := (hk1.cell hrb (by first | omega | (simp <;> omega)) 5).trans (show _ = some (.int .i64 0) by first | (with_reducible assumption) | go_simp); have nfr5 := (hk1.frz hrb (by first | omega | (simp <;> omega)) 5).trans (show _ = false by first | (with_reducible assumption) | go_simp); have nr6 := (hk1.cell hrb (by first | omega | (simp <;> omega)) 6).trans (show _ = some (.int .i64 0) by first | (with_reducible assumption) | go_simp); have nfr6 := (hk1.frz hrb (by first | omega | (simp <;> omega)) 6).trans (show _ = false by first | (with_reducible assumption) | go_simp); have HR1 := Lib.hid hr1; have HK1 := Lib.hid (show Kept (But b) w w1 from kept_trans (kept_ext extA) hk1); clear hr1 hk1 HN1)) | (go_at_call 56; go_must ((with_reducible refine (HMK.out _ (tkAt_ext HR1.out extA)).mono ?_); rintro e w2 ⟨v2, rfl, hm2, hr2, hk2⟩; obtain ⟨v2', hv2, hm2, hi2⟩ := hm2; injection hv2 with hv2; subst hv2; obtain ⟨a2, n2, c2, rfl⟩ := hm2.slice; have hz2 := hk2.size; (try simp at hz2); have md0 := (hk2.cell (show w1.heap.size ≠ b by assumption) (by first | omega | (simp <;> omega)) 0).trans (show _ = some (.int .i64 2) by first | (with_reducible assumption) | go_simp); have mfd0 := (hk2.frz (show w1.heap.size ≠ b by assumption) (by first | omega | (simp <;> omega)) 0).trans (show _ = false by first | (with_reducible assumption) | go_simp); have md1 := (hk2.cell (show w1.heap.size ≠ b by assumption) (by first | omega | (simp <;> omega)) 1).trans (show _ = some (.slice none 0 0) by first | (with_reducible assumption) | go_simp); have mfd1 := (hk2.frz (show w1.heap.size ≠ b by assumption) (by first | omega | (simp <;> omega)) 1).trans (show _ = false by first | (with_reducible assumption) | go_simp); have md2 := (hk2.cell (show w1.heap.size ≠ b by assumption) (by first | omega | (simp <;> omega)) 2).trans (show _ = some (.int .i64 0) by first | (with_reducible assumption) | go_simp); have mfd2 := (hk2.frz (show w1.heap.size ≠ b by assumption) (by first | omega | (simp <;> omega)) 2).trans (show _ = false by first | (with_reducible assumption) | go_simp); have md3 := (hk2.cell (show w1.heap.size ≠ b by assumption) (by first | omega | (simp <;> omega)) 3).trans (show _ = some (.string ⟨#[]⟩) by first | (with_reducible assumption) | go_simp); have mfd3 := (hk2.frz (show w1.heap.size ≠ b by assumption) (by first | omega | (simp <;> omega)) 3).trans (show _ = false by first | (with_reducible assumption) | go_simp); have md4 := (hk2.cell (show w1.heap.size ≠ b by assumption) (by first | omega | (simp <;> omega)) 4).trans (show _ = some (.slice none 0 0) by first | (with_reducible assumption) | go_simp); have mfd4 := (hk2.frz (show w1.heap.size ≠ b by assumption) (by first | omega | (simp <;> omega)) 4).trans (show _ = false by first | (with_reducible assumption) | go_simp); have md5 := (hk2.cell (show w1.heap.size ≠ b by assumption) (by first | omega | (simp <;> omega)) 5).trans (show _ = some (.int .i64 0) by first | (with_reducible assumption) | go_simp); have mfd5 := (hk2.frz (show w1.heap.size ≠ b by assumption) (by first | omega | (simp <;> omega)) 5).trans (show _ = false by first | (with_reducible assumption) | go_simp); have md6 := (hk2.cell (show w1.heap.size ≠ b by assumption) (by first | omega | (simp <;> omega)) 6).trans (show _ = some (.int .i64 0) by first | (with_reducible assumption) | go_simp); have mfd6 := (hk2.frz (show w1.heap.size ≠ b by assumption) (by first | omega | (simp <;> omega)) 6).trans (show _ = false by first | (with_reducible assumption) | go_simp); have mr0 := (hk2.cell (show w.heap.size ≠ b by assumption) (by first | omega | (simp <;> omega)) 0).trans (show _ = some (.int .i64 0) by first | (with_reducible assumption) | go_simp); have mfr0 := (hk2.frz (show w.heap.size ≠ b by assumption) (by first | omega | (simp <;> omega)) 0).trans (show _ = false by first | (with_reducible assumption) | go_simp); have mr1 := (hk2.cell (show w.heap.size ≠ b by assumption) (by first | omega | (simp <;> omega)) 1).trans (show _ = some (.slice none 0 0) by first | (with_reducible assumption) | go_simp); have mfr1 := (hk2.frz (show w.heap.size ≠ b by assumption) (by first | omega | (simp <;> omega)) 1).trans (show _ = false by first | (with_reducible assumption) | go_simp); have mr2 := (hk2.cell (show w.heap.size ≠ b by assumption) (by first | omega | (simp <;> omega)) 2).trans (show _ = some (.int .i64 0) by first | (with_reducible assumption) | go_simp); have mfr2 := (hk2.frz (show w.heap.size ≠ b by assumption) (by first | omega | (simp <;> omega)) 2).trans (show _ = false by first | (with_reducible assumption) | go_simp); have mr3 := (hk2.cell (show w.heap.size ≠ b by assumption) (by first | omega | (simp <;> omega)) 3).trans (show _ = some (.string ⟨#[]⟩) by first | (with_reducible assumption) | go_simp); have mfr3 := (hk2.frz (show w.heap.size ≠ b by assumption) (by first | omega | (simp <;> omega)) 3).trans (show _ = false by first | (with_reducible assumption) | go_simp); have mr4 := (hk2.cell (show w.heap.size ≠ b by assumption) (by first | omega | (simp <;> omega)) 4).trans (show _ = some (.slice none 0 0) by first | (with_reducible assumption) | go_simp); have mfr4 := (hk2.frz (show w.heap.size ≠ b by assumption) (by first | omega | (simp <;> omega)) 4).trans (show _ = false by first | (with_reducible assumption) | go_simp); have mr5 := (hk2.cell (show w.heap.size ≠ b by assumption) (by first | omega | (simp <;> omega)) 5).trans (show _ = some (.int .i64 0) by first | (with_reducible assumption) | go_simp); have mfr5 := (hk2.frz (show w.heap.size ≠ b by assumption) (by first | omega | (simp <;> omega)) 5).trans (show _ = false by first | (with_reducible assumption) | go_simp); have mr6 := (hk2.cell (show w.heap.size ≠ b by assumption) (by first | omega | (simp <;> omega)) 6).trans (show _ = some (.int .i64 0) by first | (with_reducible assumption) | go_simp); have mfr6 := (hk2.frz (show w.heap.size ≠ b by assumption) (by first | omega | (simp <;> omega)) 6).trans (show _ = false by first | (with_reducible assumption) | go_simp); have HR2 := Lib.hid hr2; have HK2 := Lib.hid (show Kept (But b) w1 w2 from kept_trans (kept_ext extA) hk2); have HM2 := Lib.hid (RSl.more gStp (G := fun k => w1.heap.size < k) (fun k hk _ => by (try simp at hk); omega) hm2); have HI2 := Lib.hid hi2; clear hr2 hk2 hm2 hi2)) | (go_at_call 35; go_must ((with_reducible refine (HN2.out _ (tkAt_kept HR2.out (Z := fun k => k = b) (kept_set (p := ⟨w1.heap.size, 5, none⟩) (kept_set (p := ⟨w1.heap.size, 4, none⟩) kept_refl hdb _) hdb _) rfl)).mono ?_); rintro e w3 ⟨rfl, hr3, hk3⟩; have hz3 := hk3.size; (try simp at hz3); have pd0 := (hk3.cell (show w1.heap.size ≠ b by assumption) (by first | omega | (simp <;> omega)) 0).trans (show _ = some (.int .i64 2) by first | (with_reducible assumption) | go_simp); have pfd0 := (hk3.frz (show w1.heap.size ≠ b by assumption) (by first | omega | (simp <;> omega)) 0).trans (show _ = false by first | (with_reducible assumption) | go_simp); have pd1 := (hk3.cell (show w1.heap.size ≠ b by assumption) (by first | omega | (simp <;> omega)) 1).trans (show _ = some (.slice none 0 0) by first | (with_reducible assumption) | go_simp); have pfd1 := (hk3.frz (show w1.heap.size ≠ b by assumption) (by first | omega | (simp <;> omega)) 1).trans (show _ = false by first | (with_reducible assumption) | go_simp); have pd2 := (hk3.cell (show w1.heap.size ≠ b by assumption) (by first | omega | (simp <;> omega)) 2).trans (show _ = some (.int .i64 0) by first | (with_reducible assumption) | go_simp); have pfd2 := (hk3.frz (show w1.heap.size ≠ b by assumption) (by first | omega | (simp <;> omega)) 2).trans (show _ = false by first | (with_reducible assumption) | go_simp); have pd3 := (hk3.cell (show w1.heap.size ≠ b by assumption) (by first | omega | (simp <;> omega)) 3).trans (show _ = some (.string ⟨#[]⟩) by first | (with_reducible assumption) | go_simp); have pfd3 := (hk3.frz (show w1.heap.size ≠ b by assumption) (by first | omega | (simp <;> omega)) 3).trans (show _ = false by first | (with_reducible assumption) | go_simp); have pd4 := (hk3.cell (show w1.heap.size ≠ b by assumption) (by first | omega | (simp <;> omega)) 4).trans (show _ = some (.slice a2 n2 c2) by first | (with_reducible assumption) | go_simp); have pfd4 := (hk3.frz (show w1.heap.size ≠ b by assumption) (by first | omega | (simp <;> omega)) 4).trans (show _ = false by first | (with_reducible assumption) | go_simp); have pd5 := (hk3.cell (show w1.heap.size ≠ b by assumption) (by first | omega | (simp <;> omega)) 5).trans (show _ = some (.int .i64 mm.1.2) by first | (with_reducible assumption) | go_simp); have pfd5 := (hk3.frz (show w1.heap.size ≠ b by assumption) (by first | omega | (simp <;> omega)) 5).trans (show _ = false by first | (with_reducible assumption) | go_simp); have pd6 := (hk3.cell (show w1.heap.size ≠ b by assumption) (by first | omega | (simp <;> omega)) 6).trans (show _ = some (.int .i64 0) by first | (with_reducible assumption) | go_simp); have pfd6 := (hk3.frz (show w1.heap.size ≠ b by assumption) (by first | omega | (simp <;> omega)) 6).trans (show _ = false by first | (with_reducible assumption) | go_simp); have pr0 := (hk3.cell (show w.heap.size ≠ b by assumption) (by first | omega | (simp <;> omega)) 0).trans (show _ = some (.int .i64 0) by first | (with_reducible assumption) | go_simp); have pfr0 := (hk3.frz (show w.heap.size ≠ b by assumption) (by first | omega | (simp <;> omega)) 0).trans (show _ = false by first | (with_reducible assumption) | go_simp); have pr1 := (hk3.cell (show w.heap.size ≠ b by assumption) (by first | omega | (simp <;> omega)) 1).trans (show _ = some (.slice none 0 0) by first | (with_reducible assumption) | go_simp); have pfr1 := (hk3.frz (show w.heap.size ≠ b by assumption) (by first | omega | (simp <;> omega)) 1).trans (show _ = false by first | (with_reducible assumption) | go_simp); have pr2 := (hk3.cell (show w.heap.size ≠ b by assumption) (by first | omega | (simp <;> omega)) 2).trans (show _ = some (.int .i64 0) by first | (with_reducible assumption) | go_simp); have pfr2 := (hk3.frz (show w.heap.size ≠ b by assumption) (by first | omega | (simp <;> omega)) 2).trans (show _ = false by first | (with_reducible assumption) | go_simp); have pr3 := (hk3.cell (show w.heap.size ≠ b by assumption) (by first | omega | (simp <;> omega)) 3).trans (show _ = some (.string ⟨#[]⟩) by first | (with_reducible assumption) | go_simp); have pfr3 := (hk3.frz (show w.heap.size ≠ b by assumption) (by first | omega | (simp <;> omega)) 3).trans (show _ = false by first | (with_reducible assumption) | go_simp); have pr4 := (hk3.cell (show w.heap.size ≠ b by assumption) (by first | omega | (simp <;> omega)) 4).trans (show _ = some (.slice none 0 0) by first | (with_reducible assumption) | go_simp); have pfr4 := (hk3.frz (show w.heap.size ≠ b by assumption) (by first | omega | (simp <;> omega)) 4).trans (show _ = false by first | (with_reducible assumption) | go_simp); have pr5 := (hk3.cell (show w.heap.size ≠ b by assumption) (by first | omega | (simp <;> omega)) 5).trans (show _ = some (.int .i64 0) by first | (with_reducible assumption) | go_simp); have pfr5 := (hk3.frz (show w.heap.size ≠ b by assumption) (by first | omega | (simp <;> omega)) 5).trans (show _ = false by first | (with_reducible assumption) | go_simp); have pr6 := (hk3.cell (show w.heap.size ≠ b by assumption) (by first | omega | (simp <;> omega)) 6).trans (show _ = some (.int .i64 0) by first | (with_reducible assumption) | go_simp); have pfr6 := (hk3.frz (show w.heap.size ≠ b by assumption) (by first | omega | (simp <;> omega)) 6).trans (show _ = false by first | (with_reducible assumption) | go_simp); have HR3 := Lib.hid hr3; have HK3 := Lib.hid (show Kept (But b) _ w3 from hk3); clear hr3 hk3)))
  refine body_name (fun W9 hW9 => ?_)
  have z0 : W9.cell? ⟨w.heap.size, 0, none⟩ = some (.int .i64 2) := by rw [hW9]; go_simp
  have z1 : W9.cell? ⟨w.heap.size, 1, none⟩ = some (.slice none 0 0) := by rw [hW9]; go_simp
  have z2 : W9.cell? ⟨w.heap.size, 2, none⟩ = some (.int .i64 0) := by rw [hW9]; go_simp
  have z3 : W9.cell? ⟨w.heap.size, 3, none⟩ = some (.string ⟨#[]⟩) := by rw [hW9]; go_simp
  have z4 : W9.cell? ⟨w.heap.size, 4, none⟩ = some (.slice a2 n2 c2) := by rw [hW9]; go_simp
  have z5 : W9.cell? ⟨w.heap.size, 5, none⟩ = some (.int .i64 mm.1.2) := by rw [hW9]; go_simp
  have z6 : W9.cell? ⟨w.heap.size, 6, none⟩ = some (.int .i64 nn.1) := by rw [hW9]; go_simp
  have hk9 : ∀ Z : Nat → Prop, ¬ Z w1.heap.size → ¬ Z w.heap.size → Kept Z w3 W9 := by intro Z zd zr; rw [hW9]; repeat (first | (with_reducible exact kept_refl) | (with_reducible refine kept_set ?_ zd _) | (with_reducible refine kept_set ?_ zr _))
  clear hW9
  have hch : ∀ Z : Nat → Prop, ¬ Z b → ¬ Z w1.heap.size → ¬ Z w.heap.size → Kept Z w2 W9 := fun Z zb zd zr => kept_trans (kept_set (p := ⟨w1.heap.size, 5, none⟩) (kept_set (p := ⟨w1.heap.size, 4, none⟩) kept_refl zd _) zd _) (kept_trans (HK3.out.less (fun k hk e => zb (e ▸ hk))) (hk9 Z zd zr))
  refine bodyPost_ret (v := .agg #[.int .i64 2, .slice none 0 0, .int .i64 0, .string ⟨#[]⟩, .slice a2 n2 c2, .int .i64 mm.1.2, .int .i64 nn.1]) (by simp [results, Try.results37, go_sem, z0, z1, z2, z3, z4, z5, z6]) rfl ?_
  rw [HP.out]
  have h00 : I64 0 := ⟨by decide, by decide⟩
  refine ⟨[.int .i64 2, .slice none 0 0, .int .i64 0, .string ⟨#[]⟩, .slice a2 n2 c2, .int .i64 mm.1.2, .int .i64 nn.1], rfl, ⟨_, _, _, rfl, HIK.out, RSl.nil_ (Nat.zero_le _), h00, rtx_nil, RSl.more gStp (fun k hk _ => by have hk' : w1.heap.size < k := hk; show w.heap.size ≤ k; omega) (HM2.out.keep gStp (hch (fun k => w1.heap.size < k) (by omega) (by omega) (by omega)).keeps), HI2.out, HIN.out⟩, ?_, ?_⟩
  · exact tkAt_keptB HR3.out (hk9 (fun k => k = b) hdb hrb)
  · exact kept_lt (kept_trans (HK1.out.less (fun k hk => hk.2)) (kept_trans (HK2.out.less (fun k hk => hk.2)) (hch (fun k => k < w.heap.size ∧ k ≠ b) (fun h => h.2 rfl) (fun h => by have := h.1; omega) (fun h => by have := h.1; omega))))
end Go.Proofs.Ytiladkinndgeaaa
/- The document's reader: a deed that is none. -/
namespace Go.Proofs.Ytiladkinndgeaaa
open Go Go.RowKit Go.BigFrame Cp

set_option maxRecDepth 100000 in
set_option maxHeartbeats 4000000 in
theorem deedT3_any {w : World} {b : Nat} {S : ByteArray} {r : PS} {x : Int × PS} (h : TkAt b S r w) (hx : x = oneR r) (h1 : ¬ x.1 = 1) (h2 : ¬ x.1 = 2) :
    Calls Try.prog 37 #[.pointer (some ⟨b, 0, none⟩)] w (IsDeT b S (deedR r) w) := by
  have hb := tkAt_lt h
  have hrb : w.heap.size ≠ b := by omega
  have HR := Lib.hid h
  have HN1 := Lib.hid (fun (W : World) (h : TkAt b S r W) => one_any h)
  have HIK := Lib.hid (one_i64 r)
  rw [← hx] at HN1 HIK
  obtain ⟨k0, kr⟩ := x
  simp only at HIK h1 h2
  have HX := Lib.hid hx
  clear h hx
  have t1 : (k0 == 1) = false := by simpa using h1
  have t2 : (k0 != 2) = true := by simpa using h2
  obtain ⟨mm, hmm⟩ : ∃ x, x = markR (kr.1, true) := ⟨_, rfl⟩
  obtain ⟨nn, hnn⟩ : ∃ x, x = oneR mm.2 := ⟨_, rfl⟩
  have HIN := Lib.hid (show I64 nn.1 from hnn ▸ one_i64 mm.2)
  have HP := Lib.hid (show deedR r = (⟨k0, (([], 0), []), mm.1, nn.1⟩, nn.2) from deedR_take HX.out h1 (mm := mm) (by rw [hmm]; simp [h2]) hnn)
  have HMK := Lib.hid (fun (W : World) (h : TkAt b S (kr.1, true) W) => (hmm ▸ markT_any h : Calls _ _ _ _ (IsMkT b S mm W)))
  have HN2 := Lib.hid (fun (W : World) (h : TkAt b S mm.2 W) => (hnn ▸ one_any h : Calls _ _ _ _ (IsOne b S nn W)))
  clear HX hmm hnn h1 h2
  go_enter Try.func37, Try.ntmps37
  go_wp2_with (first | (go_at_call 35; ((with_reducible refine (HN1.out _ (tkAt_ext HR.out extA)).mono ?_); rintro e w1 ⟨rfl, hr1, hk1⟩; have hl1 : w.heap.size < w1.heap.size := Nat.lt_of_lt_of_le (by first | omega | (simp <;> omega)) hk1.size; have hdb : w1.heap.size ≠ b := (by omega); have hrd : ¬ w.heap.size = w1.heap.size := (by omega); have nr0 := (hk1.cell hrb (by first | omega | (simp <;> omega)) 0).trans (show _ = some (.int .i64 0) by first | (with_reducible assumption) | go_simp); have nfr0 := (hk1.frz hrb (by first | omega | (simp <;> omega)) 0).trans (show _ = false by first | (with_reducible assumption) | go_simp); have nr1 := (hk1.cell hrb (by first | omega | (simp <;> omega)) 1).trans (show _ = some (.slice none 0 0) by first | (with_reducible assumption) | go_simp); have nfr1 := (hk1.frz hrb (by first | omega | (simp <;> omega)) 1).trans (show _ = false by first | (with_reducible assumption) | go_simp); have nr2 := (hk1.cell hrb (by first | omega | (simp <;> omega)) 2).trans (show _ = some (.int .i64 0) by first | (with_reducible assumption) | go_simp); have nfr2 := (hk1.frz hrb (by first | omega | (simp <;> omega)) 2).trans (show _ = false by first | (with_reducible assumption) | go_simp); have nr3 := (hk1.cell hrb (by first | omega | (simp <;> omega)) 3).trans (show _ = some (.string ⟨#[]⟩) by first | (with_reducible assumption) | go_simp); have nfr3 := (hk1.frz hrb (by first | omega | (simp <;> omega)) 3).trans (show _ = false by first | (with_reducible assumption) | go_simp); have nr4 := (hk1.cell hrb (by first | omega | (simp <;> omega)) 4).trans (show _ = some (.slice none 0 0) by first | (with_reducible assumption) | go_simp); have nfr4 := (hk1.frz hrb (by first | omega | (simp <;> omega)) 4).trans (show _ = false by first | (with_reducible assumption) | go_simp); have nr5 := (hk1.cell hrb (by first | omega | (simp <;> omega)) 5).trans (show _ = some (.int .i64 0) by first | (with_reducible assumption) | go_simp); have nfr5 := (hk1.frz hrb (by first | omega | (simp <;> omega)) 5).trans (show _ = false by first | (with_reducible assumption) | go_simp); have nr6 := (hk1.cell hrb (by first | omega | (simp <;> omega)) 6).trans (show _ = some (.int .i64 0) by first | (with_reducible assumption) | go_simp); have nfr6 := (hk1.frz hrb (by first | omega | (simp <;> omega)) 6).trans (show _ = false by first | (with_reducible assumption) | go_simp); have HR1 := Lib.hid hr1; have HK1 := Lib.hid (show Kept (But b) w w1 from kept_trans (kept_ext extA) hk1); clear hr1 hk1 HN1); obtain ⟨ti, tb0, tb1, tb2, tb3, tb4, tb5, tb6, tb7⟩ := HR1.out; have hbw : b < w1.heap.size := World.block_lt_of_cell? _ _ tb1; have hbd : ¬ b = w1.heap.size := (by omega); have hbr : ¬ b = w.heap.size := (by omega); clear tb3 tb4 tb7) | (go_at_call 56; go_must ((with_reducible refine (HMK.out _ (tkAt_ext (tk_bad HR1.out) extA)).mono ?_); rintro e w2 ⟨v2, rfl, hm2, hr2, hk2⟩; obtain ⟨v2', hv2, hm2, hi2⟩ := hm2; injection hv2 with hv2; subst hv2; obtain ⟨a2, n2, c2, rfl⟩ := hm2.slice; have hz2 := hk2.size; (try simp at hz2); have md0 := (hk2.cell (show w1.heap.size ≠ b by assumption) (by first | omega | (simp <;> omega)) 0).trans (show _ = some (.int .i64 k0) by first | (with_reducible assumption) | go_simp); have mfd0 := (hk2.frz (show w1.heap.size ≠ b by assumption) (by first | omega | (simp <;> omega)) 0).trans (show _ = false by first | (with_reducible assumption) | go_simp); have md1 := (hk2.cell (show w1.heap.size ≠ b by assumption) (by first | omega | (simp <;> omega)) 1).trans (show _ = some (.slice none 0 0) by first | (with_reducible assumption) | go_simp); have mfd1 := (hk2.frz (show w1.heap.size ≠ b by assumption) (by first | omega | (simp <;> omega)) 1).trans (show _ = false by first | (with_reducible assumption) | go_simp); have md2 := (hk2.cell (show w1.heap.size ≠ b by assumption) (by first | omega | (simp <;> omega)) 2).trans (show _ = some (.int .i64 0) by first | (with_reducible assumption) | go_simp); have mfd2 := (hk2.frz (show w1.heap.size ≠ b by assumption) (by first | omega | (simp <;> omega)) 2).trans (show _ = false by first | (with_reducible assumption) | go_simp); have md3 := (hk2.cell (show w1.heap.size ≠ b by assumption) (by first | omega | (simp <;> omega)) 3).trans (show _ = some (.string ⟨#[]⟩) by first | (with_reducible assumption) | go_simp); have mfd3 := (hk2.frz (show w1.heap.size ≠ b by assumption) (by first | omega | (simp <;> omega)) 3).trans (show _ = false by first | (with_reducible assumption) | go_simp); have md4 := (hk2.cell (show w1.heap.size ≠ b by assumption) (by first | omega | (simp <;> omega)) 4).trans (show _ = some (.slice none 0 0) by first | (with_reducible assumption) | go_simp); have mfd4 := (hk2.frz (show w1.heap.size ≠ b by assumption) (by first | omega | (simp <;> omega)) 4).trans (show _ = false by first | (with_reducible assumption) | go_simp); have md5 := (hk2.cell (show w1.heap.size ≠ b by assumption) (by first | omega | (simp <;> omega)) 5).trans (show _ = some (.int .i64 0) by first | (with_reducible assumption) | go_simp); have mfd5 := (hk2.frz (show w1.heap.size ≠ b by assumption) (by first | omega | (simp <;> omega)) 5).trans (show _ = false by first | (with_reducible assumption) | go_simp); have md6 := (hk2.cell (show w1.heap.size ≠ b by assumption) (by first | omega | (simp <;> omega)) 6).trans (show _ = some (.int .i64 0) by first | (with_reducible assumption) | go_simp); have mfd6 := (hk2.frz (show w1.heap.size ≠ b by assumption) (by first | omega | (simp <;> omega)) 6).trans (show _ = false by first | (with_reducible assumption) | go_simp); have mr0 := (hk2.cell (show w.heap.size ≠ b by assumption) (by first | omega | (simp <;> omega)) 0).trans (show _ = some (.int .i64 0) by first | (with_reducible assumption) | go_simp); have mfr0 := (hk2.frz (show w.heap.size ≠ b by assumption) (by first | omega | (simp <;> omega)) 0).trans (show _ = false by first | (with_reducible assumption) | go_simp); have mr1 := (hk2.cell (show w.heap.size ≠ b by assumption) (by first | omega | (simp <;> omega)) 1).trans (show _ = some (.slice none 0 0) by first | (with_reducible assumption) | go_simp); have mfr1 := (hk2.frz (show w.heap.size ≠ b by assumption) (by first | omega | (simp <;> omega)) 1).trans (show _ = false by first | (with_reducible assumption) | go_simp); have mr2 := (hk2.cell (show w.heap.size ≠ b by assumption) (by first | omega | (simp <;> omega)) 2).trans (show _ = some (.int .i64 0) by first | (with_reducible assumption) | go_simp); have mfr2 := (hk2.frz (show w.heap.size ≠ b by assumption) (by first | omega | (simp <;> omega)) 2).trans (show _ = false by first | (with_reducible assumption) | go_simp); have mr3 := (hk2.cell (show w.heap.size ≠ b by assumption) (by first | omega | (simp <;> omega)) 3).trans (show _ = some (.string ⟨#[]⟩) by first | (with_reducible assumption) | go_simp); have mfr3 := (hk2.frz (show w.heap.size ≠ b by assumption) (by first | omega | (simp <;> omega)) 3).trans (show _ = false by first | (with_reducible assumption) | go_simp); have mr4 := (hk2.cell (show w.heap.size ≠ b by assumption) (by first | omega | (simp <;> omega)) 4).trans (show _ = some (.slice none 0 0) by first | (with_reducible assumption) | go_simp); have mfr4 := (hk2.frz (show w.heap.size ≠ b by assumption) (by first | omega | (simp <;> omega)) 4).trans (show _ = false by first | (with_reducible assumption) | go_simp); have mr5 := (hk2.cell (show w.heap.size ≠ b by assumption) (by first | omega | (simp <;> omega)) 5).trans (show _ = some (.int .i64 0) by first | (with_reducible assumption) | go_simp); have mfr5 := (hk2.frz (show w.heap.size ≠ b by assumption) (by first | omega | (simp <;> omega)) 5).trans (show _ = false by first | (with_reducible assumption) | go_simp); have mr6 := (hk2.cell (show w.heap.size ≠ b by assumption) (by first | omega | (simp <;> omega)) 6).trans (show _ = some (.int .i64 0) by first | (with_reducible assumption) | go_simp); have mfr6 := (hk2.frz (show w.heap.size ≠ b by assumption) (by first | omega | (simp <;> omega)) 6).trans (show _ = false by first | (with_reducible assumption) | go_simp); have HR2 := Lib.hid hr2; have HK2 := Lib.hid (show Kept (But b) w1 w2 from kept_trans (kept_set (p := ⟨b, 2, none⟩) kept_refl (fun h => h rfl) _) (kept_trans (kept_ext extA) hk2)); have HM2 := Lib.hid (RSl.more gStp (G := fun k => w1.heap.size < k) (fun k hk _ => by (try simp at hk); omega) hm2); have HI2 := Lib.hid hi2; clear hr2 hk2 hm2 hi2)) | (go_at_call 35; go_must ((with_reducible refine (HN2.out _ (tkAt_kept HR2.out (Z := fun k => k = b) (kept_set (p := ⟨w1.heap.size, 5, none⟩) (kept_set (p := ⟨w1.heap.size, 4, none⟩) kept_refl hdb _) hdb _) rfl)).mono ?_); rintro e w3 ⟨rfl, hr3, hk3⟩; have hz3 := hk3.size; (try simp at hz3); have pd0 := (hk3.cell (show w1.heap.size ≠ b by assumption) (by first | omega | (simp <;> omega)) 0).trans (show _ = some (.int .i64 k0) by first | (with_reducible assumption) | go_simp); have pfd0 := (hk3.frz (show w1.heap.size ≠ b by assumption) (by first | omega | (simp <;> omega)) 0).trans (show _ = false by first | (with_reducible assumption) | go_simp); have pd1 := (hk3.cell (show w1.heap.size ≠ b by assumption) (by first | omega | (simp <;> omega)) 1).trans (show _ = some (.slice none 0 0) by first | (with_reducible assumption) | go_simp); have pfd1 := (hk3.frz (show w1.heap.size ≠ b by assumption) (by first | omega | (simp <;> omega)) 1).trans (show _ = false by first | (with_reducible assumption) | go_simp); have pd2 := (hk3.cell (show w1.heap.size ≠ b by assumption) (by first | omega | (simp <;> omega)) 2).trans (show _ = some (.int .i64 0) by first | (with_reducible assumption) | go_simp); have pfd2 := (hk3.frz (show w1.heap.size ≠ b by assumption) (by first | omega | (simp <;> omega)) 2).trans (show _ = false by first | (with_reducible assumption) | go_simp); have pd3 := (hk3.cell (show w1.heap.size ≠ b by assumption) (by first | omega | (simp <;> omega)) 3).trans (show _ = some (.string ⟨#[]⟩) by first | (with_reducible assumption) | go_simp); have pfd3 := (hk3.frz (show w1.heap.size ≠ b by assumption) (by first | omega | (simp <;> omega)) 3).trans (show _ = false by first | (with_reducible assumption) | go_simp); have pd4 := (hk3.cell (show w1.heap.size ≠ b by assumption) (by first | omega | (simp <;> omega)) 4).trans (show _ = some (.slice a2 n2 c2) by first | (with_reducible assumption) | go_simp); have pfd4 := (hk3.frz (show w1.heap.size ≠ b by assumption) (by first | omega | (simp <;> omega)) 4).trans (show _ = false by first | (with_reducible assumption) | go_simp); have pd5 := (hk3.cell (show w1.heap.size ≠ b by assumption) (by first | omega | (simp <;> omega)) 5).trans (show _ = some (.int .i64 mm.1.2) by first | (with_reducible assumption) | go_simp); have pfd5 := (hk3.frz (show w1.heap.size ≠ b by assumption) (by first | omega | (simp <;> omega)) 5).trans (show _ = false by first | (with_reducible assumption) | go_simp); have pd6 := (hk3.cell (show w1.heap.size ≠ b by assumption) (by first | omega | (simp <;> omega)) 6).trans (show _ = some (.int .i64 0) by first | (with_reducible assumption) | go_simp); have pfd6 := (hk3.frz (show w1.heap.size ≠ b by assumption) (by first | omega | (simp <;> omega)) 6).trans (show _ = false by first | (with_reducible assumption) | go_simp); have pr0 := (hk3.cell (show w.heap.size ≠ b by assumption) (by first | omega | (simp <;> omega)) 0).trans (show _ = some (.int .i64 0) by first | (with_reducible assumption) | go_simp); have pfr0 := (hk3.frz (show w.heap.size ≠ b by assumption) (by first | omega | (simp <;> omega)) 0).trans (show _ = false by first | (with_reducible assumption) | go_simp); have pr1 := (hk3.cell (show w.heap.size ≠ b by assumption) (by first | omega | (simp <;> omega)) 1).trans (show _ = some (.slice none 0 0) by first | (with_reducible assumption) | go_simp); have pfr1 := (hk3.frz (show w.heap.size ≠ b by assumption) (by first | omega | (simp <;> omega)) 1).trans (show _ = false by first | (with_reducible assumption) | go_simp); have pr2 := (hk3.cell (show w.heap.size ≠ b by assumption) (by first | omega | (simp <;> omega)) 2).trans (show _ = some (.int .i64 0) by first | (with_reducible assumption) | go_simp); have pfr2 := (hk3.frz (show w.heap.size ≠ b by assumption) (by first | omega | (simp <;> omega)) 2).trans (show _ = false by first | (with_reducible assumption) | go_simp); have pr3 := (hk3.cell (show w.heap.size ≠ b by assumption) (by first | omega | (simp <;> omega)) 3).trans (show _ = some (.string ⟨#[]⟩) by first | (with_reducible assumption) | go_simp); have pfr3 := (hk3.frz (show w.heap.size ≠ b by assumption) (by first | omega | (simp <;> omega)) 3).trans (show _ = false by first | (with_reducible assumption) | go_simp); have pr4 := (hk3.cell (show w.heap.size ≠ b by assumption) (by first | omega | (simp <;> omega)) 4).trans (show _ = some (.slice none 0 0) by first | (with_reducible assumption) | go_simp); have pfr4 := (hk3.frz (show w.heap.size ≠ b by assumption) (by first | omega | (simp <;> omega)) 4).trans (show _ = false by first | (with_reducible assumption) | go_simp); have pr5 := (hk3.cell (show w.heap.size ≠ b by assumption) (by first | omega | (simp <;> omega)) 5).trans (show _ = some (.int .i64 0) by first | (with_reducible assumption) | go_simp); have pfr5 := (hk3.frz (show w.heap.size ≠ b by assumption) (by first | omega | (simp <;> omega)) 5).trans (show _ = false by first | (with_reducible assumption) | go_simp); have pr6 := (hk3.cell (show w.heap.size ≠ b by assumption) (by first | omega | (simp <;> omega)) 6).trans (show _ = some (.int .i64 0) by first | (with_reducible assumption) | go_simp); have pfr6 := (hk3.frz (show w.heap.size ≠ b by assumption) (by first | omega | (simp <;> omega)) 6).trans (show _ = false by first | (with_reducible assumption) | go_simp); have HR3 := Lib.hid hr3; have HK3 := Lib.hid (show Kept (But b) _ w3 from hk3); clear hr3 hk3)))
  refine body_name (fun W9 hW9 => ?_)
  have z0 : W9.cell? ⟨w.heap.size, 0, none⟩ = some (.int .i64 k0) := by rw [hW9]; go_simp
  have z1 : W9.cell? ⟨w.heap.size, 1, none⟩ = some (.slice none 0 0) := by rw [hW9]; go_simp
  have z2 : W9.cell? ⟨w.heap.size, 2, none⟩ = some (.int .i64 0) := by rw [hW9]; go_simp
  have z3 : W9.cell? ⟨w.heap.size, 3, none⟩ = some (.string ⟨#[]⟩) := by rw [hW9]; go_simp
  have z4 : W9.cell? ⟨w.heap.size, 4, none⟩ = some (.slice a2 n2 c2) := by rw [hW9]; go_simp
  have z5 : W9.cell? ⟨w.heap.size, 5, none⟩ = some (.int .i64 mm.1.2) := by rw [hW9]; go_simp
  have z6 : W9.cell? ⟨w.heap.size, 6, none⟩ = some (.int .i64 nn.1) := by rw [hW9]; go_simp
  have hk9 : ∀ Z : Nat → Prop, ¬ Z w1.heap.size → ¬ Z w.heap.size → Kept Z w3 W9 := by intro Z zd zr; rw [hW9]; repeat (first | (with_reducible exact kept_refl) | (with_reducible refine kept_set ?_ zd _) | (with_reducible refine kept_set ?_ zr _))
  clear hW9
  have hch : ∀ Z : Nat → Prop, ¬ Z b → ¬ Z w1.heap.size → ¬ Z w.heap.size → Kept Z w2 W9 := fun Z zb zd zr => kept_trans (kept_set (p := ⟨w1.heap.size, 5, none⟩) (kept_set (p := ⟨w1.heap.size, 4, none⟩) kept_refl zd _) zd _) (kept_trans (HK3.out.less (fun k hk e => zb (e ▸ hk))) (hk9 Z zd zr))
  refine bodyPost_ret (v := .agg #[.int .i64 k0, .slice none 0 0, .int .i64 0, .string ⟨#[]⟩, .slice a2 n2 c2, .int .i64 mm.1.2, .int .i64 nn.1]) (by simp [results, Try.results37, go_sem, z0, z1, z2, z3, z4, z5, z6]) rfl ?_
  rw [HP.out]
  have h00 : I64 0 := ⟨by decide, by decide⟩
  refine ⟨[.int .i64 k0, .slice none 0 0, .int .i64 0, .string ⟨#[]⟩, .slice a2 n2 c2, .int .i64 mm.1.2, .int .i64 nn.1], rfl, ⟨_, _, _, rfl, HIK.out, RSl.nil_ (Nat.zero_le _), h00, rtx_nil, RSl.more gStp (fun k hk _ => by have hk' : w1.heap.size < k := hk; show w.heap.size ≤ k; omega) (HM2.out.keep gStp (hch (fun k => w1.heap.size < k) (by omega) (by omega) (by omega)).keeps), HI2.out, HIN.out⟩, ?_, ?_⟩
  · exact tkAt_keptB HR3.out (hk9 (fun k => k = b) hdb hrb)
  · exact kept_lt (kept_trans (HK1.out.less (fun k hk => hk.2)) (kept_trans (HK2.out.less (fun k hk => hk.2)) (hch (fun k => k < w.heap.size ∧ k ≠ b) (fun h => h.2 rfl) (fun h => by have := h.1; omega) (fun h => by have := h.1; omega))))
end Go.Proofs.Ytiladkinndgeaaa
/- The document's reader: a deed that puts, too short. -/
namespace Go.Proofs.Ytiladkinndgeaaa
open Go Go.RowKit Go.BigFrame Cp

set_option maxRecDepth 100000 in
set_option maxHeartbeats 4000000 in
theorem deedT1a_any {w : World} {b : Nat} {S : ByteArray} {r : PS} {x : Int × PS} (h : TkAt b S r w) (hx : x = oneR r) (h1 : x.1 = 1) {mm : Mk × PS} {nn : Int × PS} (hmm : mm = markR x.2) (hnn : nn = oneR mm.2) (hbd : nn.2.2 = true ∨ (nn.2.1.length : Int) < nn.1) :
    Calls Try.prog 37 #[.pointer (some ⟨b, 0, none⟩)] w (IsDeT b S (deedR r) w) := by
  have hb := tkAt_lt h
  have hrb : w.heap.size ≠ b := by omega
  have HR := Lib.hid h
  have HN1 := Lib.hid (fun (W : World) (h : TkAt b S r W) => one_any h)
  have HIK := Lib.hid (one_i64 r)
  rw [← hx] at HN1 HIK
  obtain ⟨k0, kr⟩ := x
  simp only at HIK h1 hmm
  have HX := Lib.hid hx
  clear h hx
  have t1 : (k0 == 1) = true := by rw [h1]; rfl
  obtain ⟨n, hn, hn5⟩ := one_nat mm.2
  rw [← hnn] at hn
  have HMK := Lib.hid (fun (W : World) (h : TkAt b S kr W) => (hmm ▸ markT_any h : Calls _ _ _ _ (IsMkT b S mm W)))
  have HN2 := Lib.hid (fun (W : World) (h : TkAt b S mm.2 W) => (one_any h).mono (R' := fun e w' => e = .returned (.int .i64 (n : Int)) ∧ TkAt b S nn.2 w' ∧ Kept (But b) W w') (fun e w' ⟨h1, h2, h3⟩ => ⟨by rw [h1, ← hnn, hn], hnn ▸ h2, h3⟩))
  have HP := Lib.hid (deedR_short HX.out h1 hmm hnn hbd)
  have HBD := Lib.hid (show nn.2.2 = true ∨ nn.2.1.length < n by rw [hn] at hbd; exact hbd.imp id (fun h => by omega))
  clear hn HX hmm hnn hbd
  subst h1
  go_enter Try.func37, Try.ntmps37
  go_wp2_with (first | (go_at_call 35; ((with_reducible refine (HN1.out _ (tkAt_ext HR.out extA)).mono ?_); rintro e w1 ⟨rfl, hr1, hk1⟩; have hl1 : w.heap.size < w1.heap.size := Nat.lt_of_lt_of_le (by first | omega | (simp <;> omega)) hk1.size; have hdb : w1.heap.size ≠ b := (by omega); have hrd : ¬ w.heap.size = w1.heap.size := (by omega); have nr0 := (hk1.cell hrb (by first | omega | (simp <;> omega)) 0).trans (show _ = some (.int .i64 0) by first | (with_reducible assumption) | go_simp); have nfr0 := (hk1.frz hrb (by first | omega | (simp <;> omega)) 0).trans (show _ = false by first | (with_reducible assumption) | go_simp); have nr1 := (hk1.cell hrb (by first | omega | (simp <;> omega)) 1).trans (show _ = some (.slice none 0 0) by first | (with_reducible assumption) | go_simp); have nfr1 := (hk1.frz hrb (by first | omega | (simp <;> omega)) 1).trans (show _ = false by first | (with_reducible assumption) | go_simp); have nr2 := (hk1.cell hrb (by first | omega | (simp <;> omega)) 2).trans (show _ = some (.int .i64 0) by first | (with_reducible assumption) | go_simp); have nfr2 := (hk1.frz hrb (by first | omega | (simp <;> omega)) 2).trans (show _ = false by first | (with_reducible assumption) | go_simp); have nr3 := (hk1.cell hrb (by first | omega | (simp <;> omega)) 3).trans (show _ = some (.string ⟨#[]⟩) by first | (with_reducible assumption) | go_simp); have nfr3 := (hk1.frz hrb (by first | omega | (simp <;> omega)) 3).trans (show _ = false by first | (with_reducible assumption) | go_simp); have nr4 := (hk1.cell hrb (by first | omega | (simp <;> omega)) 4).trans (show _ = some (.slice none 0 0) by first | (with_reducible assumption) | go_simp); have nfr4 := (hk1.frz hrb (by first | omega | (simp <;> omega)) 4).trans (show _ = false by first | (with_reducible assumption) | go_simp); have nr5 := (hk1.cell hrb (by first | omega | (simp <;> omega)) 5).trans (show _ = some (.int .i64 0) by first | (with_reducible assumption) | go_simp); have nfr5 := (hk1.frz hrb (by first | omega | (simp <;> omega)) 5).trans (show _ = false by first | (with_reducible assumption) | go_simp); have nr6 := (hk1.cell hrb (by first | omega | (simp <;> omega)) 6).trans (show _ = some (.int .i64 0) by first | (with_reducible assumption) | go_simp); have nfr6 := (hk1.frz hrb (by first | omega | (simp <;> omega)) 6).trans (show _ = false by first | (with_reducible assumption) | go_simp); have HR1 := Lib.hid hr1; have HK1 := Lib.hid (show Kept (But b) w w1 from kept_trans (kept_ext extA) hk1); clear hr1 hk1 HN1)) | (go_at_call 56; go_must ((with_reducible refine (HMK.out _ (tkAt_ext HR1.out extA)).mono ?_); rintro e w2 ⟨v2, rfl, hm2, hr2, hk2⟩; obtain ⟨v2', hv2, hm2, hi2⟩ := hm2; injection hv2 with hv2; subst hv2; obtain ⟨a2, n2, c2, rfl⟩ := hm2.slice; have hz2 := hk2.size; (try simp at hz2); have md0 := (hk2.cell (show w1.heap.size ≠ b by assumption) (by first | omega | (simp <;> omega)) 0).trans (show _ = some (.int .i64 1) by first | (with_reducible assumption) | go_simp); have mfd0 := (hk2.frz (show w1.heap.size ≠ b by assumption) (by first | omega | (simp <;> omega)) 0).trans (show _ = false by first | (with_reducible assumption) | go_simp); have md1 := (hk2.cell (show w1.heap.size ≠ b by assumption) (by first | omega | (simp <;> omega)) 1).trans (show _ = some (.slice none 0 0) by first | (with_reducible assumption) | go_simp); have mfd1 := (hk2.frz (show w1.heap.size ≠ b by assumption) (by first | omega | (simp <;> omega)) 1).trans (show _ = false by first | (with_reducible assumption) | go_simp); have md2 := (hk2.cell (show w1.heap.size ≠ b by assumption) (by first | omega | (simp <;> omega)) 2).trans (show _ = some (.int .i64 0) by first | (with_reducible assumption) | go_simp); have mfd2 := (hk2.frz (show w1.heap.size ≠ b by assumption) (by first | omega | (simp <;> omega)) 2).trans (show _ = false by first | (with_reducible assumption) | go_simp); have md3 := (hk2.cell (show w1.heap.size ≠ b by assumption) (by first | omega | (simp <;> omega)) 3).trans (show _ = some (.string ⟨#[]⟩) by first | (with_reducible assumption) | go_simp); have mfd3 := (hk2.frz (show w1.heap.size ≠ b by assumption) (by first | omega | (simp <;> omega)) 3).trans (show _ = false by first | (with_reducible assumption) | go_simp); have md4 := (hk2.cell (show w1.heap.size ≠ b by assumption) (by first | omega | (simp <;> omega)) 4).trans (show _ = some (.slice none 0 0) by first | (with_reducible assumption) | go_simp); have mfd4 := (hk2.frz (show w1.heap.size ≠ b by assumption) (by first | omega | (simp <;> omega)) 4).trans (show _ = false by first | (with_reducible assumption) | go_simp); have md5 := (hk2.cell (show w1.heap.size ≠ b by assumption) (by first | omega | (simp <;> omega)) 5).trans (show _ = some (.int .i64 0) by first | (with_reducible assumption) | go_simp); have mfd5 := (hk2.frz (show w1.heap.size ≠ b by assumption) (by first | omega | (simp <;> omega)) 5).trans (show _ = false by first | (with_reducible assumption) | go_simp); have md6 := (hk2.cell (show w1.heap.size ≠ b by assumption) (by first | omega | (simp <;> omega)) 6).trans (show _ = some (.int .i64 0) by first | (with_reducible assumption) | go_simp); have mfd6 := (hk2.frz (show w1.heap.size ≠ b by assumption) (by first | omega | (simp <;> omega)) 6).trans (show _ = false by first | (with_reducible assumption) | go_simp); have mr0 := (hk2.cell (show w.heap.size ≠ b by assumption) (by first | omega | (simp <;> omega)) 0).trans (show _ = some (.int .i64 0) by first | (with_reducible assumption) | go_simp); have mfr0 := (hk2.frz (show w.heap.size ≠ b by assumption) (by first | omega | (simp <;> omega)) 0).trans (show _ = false by first | (with_reducible assumption) | go_simp); have mr1 := (hk2.cell (show w.heap.size ≠ b by assumption) (by first | omega | (simp <;> omega)) 1).trans (show _ = some (.slice none 0 0) by first | (with_reducible assumption) | go_simp); have mfr1 := (hk2.frz (show w.heap.size ≠ b by assumption) (by first | omega | (simp <;> omega)) 1).trans (show _ = false by first | (with_reducible assumption) | go_simp); have mr2 := (hk2.cell (show w.heap.size ≠ b by assumption) (by first | omega | (simp <;> omega)) 2).trans (show _ = some (.int .i64 0) by first | (with_reducible assumption) | go_simp); have mfr2 := (hk2.frz (show w.heap.size ≠ b by assumption) (by first | omega | (simp <;> omega)) 2).trans (show _ = false by first | (with_reducible assumption) | go_simp); have mr3 := (hk2.cell (show w.heap.size ≠ b by assumption) (by first | omega | (simp <;> omega)) 3).trans (show _ = some (.string ⟨#[]⟩) by first | (with_reducible assumption) | go_simp); have mfr3 := (hk2.frz (show w.heap.size ≠ b by assumption) (by first | omega | (simp <;> omega)) 3).trans (show _ = false by first | (with_reducible assumption) | go_simp); have mr4 := (hk2.cell (show w.heap.size ≠ b by assumption) (by first | omega | (simp <;> omega)) 4).trans (show _ = some (.slice none 0 0) by first | (with_reducible assumption) | go_simp); have mfr4 := (hk2.frz (show w.heap.size ≠ b by assumption) (by first | omega | (simp <;> omega)) 4).trans (show _ = false by first | (with_reducible assumption) | go_simp); have mr5 := (hk2.cell (show w.heap.size ≠ b by assumption) (by first | omega | (simp <;> omega)) 5).trans (show _ = some (.int .i64 0) by first | (with_reducible assumption) | go_simp); have mfr5 := (hk2.frz (show w.heap.size ≠ b by assumption) (by first | omega | (simp <;> omega)) 5).trans (show _ = false by first | (with_reducible assumption) | go_simp); have mr6 := (hk2.cell (show w.heap.size ≠ b by assumption) (by first | omega | (simp <;> omega)) 6).trans (show _ = some (.int .i64 0) by first | (with_reducible assumption) | go_simp); have mfr6 := (hk2.frz (show w.heap.size ≠ b by assumption) (by first | omega | (simp <;> omega)) 6).trans (show _ = false by first | (with_reducible assumption) | go_simp); have HR2 := Lib.hid hr2; have HK2 := Lib.hid (show Kept (But b) w1 w2 from kept_trans (kept_ext extA) hk2); have HM2 := Lib.hid (RSl.more gStp (G := fun k => w1.heap.size < k) (fun k hk _ => by (try simp at hk); omega) hm2); have HI2 := Lib.hid hi2; clear hr2 hk2 hm2 hi2)) | (go_at_call 35; go_must ((with_reducible refine (HN2.out _ (tkAt_kept HR2.out (Z := fun k => k = b) (kept_set (p := ⟨w1.heap.size, 2, none⟩) (kept_set (p := ⟨w1.heap.size, 1, none⟩) kept_refl hdb _) hdb _) rfl)).mono ?_); rintro e w3 ⟨rfl, hr3, hk3⟩; have hz3 := hk3.size; (try simp at hz3); have pd0 := (hk3.cell (show w1.heap.size ≠ b by assumption) (by first | omega | (simp <;> omega)) 0).trans (show _ = some (.int .i64 1) by first | (with_reducible assumption) | go_simp); have pfd0 := (hk3.frz (show w1.heap.size ≠ b by assumption) (by first | omega | (simp <;> omega)) 0).trans (show _ = false by first | (with_reducible assumption) | go_simp); have pd1 := (hk3.cell (show w1.heap.size ≠ b by assumption) (by first | omega | (simp <;> omega)) 1).trans (show _ = some (.slice a2 n2 c2) by first | (with_reducible assumption) | go_simp); have pfd1 := (hk3.frz (show w1.heap.size ≠ b by assumption) (by first | omega | (simp <;> omega)) 1).trans (show _ = false by first | (with_reducible assumption) | go_simp); have pd2 := (hk3.cell (show w1.heap.size ≠ b by assumption) (by first | omega | (simp <;> omega)) 2).trans (show _ = some (.int .i64 mm.1.2) by first | (with_reducible assumption) | go_simp); have pfd2 := (hk3.frz (show w1.heap.size ≠ b by assumption) (by first | omega | (simp <;> omega)) 2).trans (show _ = false by first | (with_reducible assumption) | go_simp); have pd3 := (hk3.cell (show w1.heap.size ≠ b by assumption) (by first | omega | (simp <;> omega)) 3).trans (show _ = some (.string ⟨#[]⟩) by first | (with_reducible assumption) | go_simp); have pfd3 := (hk3.frz (show w1.heap.size ≠ b by assumption) (by first | omega | (simp <;> omega)) 3).trans (show _ = false by first | (with_reducible assumption) | go_simp); have pd4 := (hk3.cell (show w1.heap.size ≠ b by assumption) (by first | omega | (simp <;> omega)) 4).trans (show _ = some (.slice none 0 0) by first | (with_reducible assumption) | go_simp); have pfd4 := (hk3.frz (show w1.heap.size ≠ b by assumption) (by first | omega | (simp <;> omega)) 4).trans (show _ = false by first | (with_reducible assumption) | go_simp); have pd5 := (hk3.cell (show w1.heap.size ≠ b by assumption) (by first | omega | (simp <;> omega)) 5).trans (show _ = some (.int .i64 0) by first | (with_reducible assumption) | go_simp); have pfd5 := (hk3.frz (show w1.heap.size ≠ b by assumption) (by first | omega | (simp <;> omega)) 5).trans (show _ = false by first | (with_reducible assumption) | go_simp); have pd6 := (hk3.cell (show w1.heap.size ≠ b by assumption) (by first | omega | (simp <;> omega)) 6).trans (show _ = some (.int .i64 0) by first | (with_reducible assumption) | go_simp); have pfd6 := (hk3.frz (show w1.heap.size ≠ b by assumption) (by first | omega | (simp <;> omega)) 6).trans (show _ = false by first | (with_reducible assumption) | go_simp); have pr0 := (hk3.cell (show w.heap.size ≠ b by assumption) (by first | omega | (simp <;> omega)) 0).trans (show _ = some (.int .i64 0) by first | (with_reducible assumption) | go_simp); have pfr0 := (hk3.frz (show w.heap.size ≠ b by assumption) (by first | omega | (simp <;> omega)) 0).trans (show _ = false by first | (with_reducible assumption) | go_simp); have pr1 := (hk3.cell (show w.heap.size ≠ b by assumption) (by first | omega | (simp <;> omega)) 1).trans (show _ = some (.slice none 0 0) by first | (with_reducible assumption) | go_simp); have pfr1 := (hk3.frz (show w.heap.size ≠ b by assumption) (by first | omega | (simp <;> omega)) 1).trans (show _ = false by first | (with_reducible assumption) | go_simp); have pr2 := (hk3.cell (show w.heap.size ≠ b by assumption) (by first | omega | (simp <;> omega)) 2).trans (show _ = some (.int .i64 0) by first | (with_reducible assumption) | go_simp); have pfr2 := (hk3.frz (show w.heap.size ≠ b by assumption) (by first | omega | (simp <;> omega)) 2).trans (show _ = false by first | (with_reducible assumption) | go_simp); have pr3 := (hk3.cell (show w.heap.size ≠ b by assumption) (by first | omega | (simp <;> omega)) 3).trans (show _ = some (.string ⟨#[]⟩) by first | (with_reducible assumption) | go_simp); have pfr3 := (hk3.frz (show w.heap.size ≠ b by assumption) (by first | omega | (simp <;> omega)) 3).trans (show _ = false by first | (with_reducible assumption) | go_simp); have pr4 := (hk3.cell (show w.heap.size ≠ b by assumption) (by first | omega | (simp <;> omega)) 4).trans (show _ = some (.slice none 0 0) by first | (with_reducible assumption) | go_simp); have pfr4 := (hk3.frz (show w.heap.size ≠ b by assumption) (by first | omega | (simp <;> omega)) 4).trans (show _ = false by first | (with_reducible assumption) | go_simp); have pr5 := (hk3.cell (show w.heap.size ≠ b by assumption) (by first | omega | (simp <;> omega)) 5).trans (show _ = some (.int .i64 0) by first | (with_reducible assumption) | go_simp); have pfr5 := (hk3.frz (show w.heap.size ≠ b by assumption) (by first | omega | (simp <;> omega)) 5).trans (show _ = false by first | (with_reducible assumption) | go_simp); have pr6 := (hk3.cell (show w.heap.size ≠ b by assumption) (by first | omega | (simp <;> omega)) 6).trans (show _ = some (.int .i64 0) by first | (with_reducible assumption) | go_simp); have pfr6 := (hk3.frz (show w.heap.size ≠ b by assumption) (by first | omega | (simp <;> omega)) 6).trans (show _ = false by first | (with_reducible assumption) | go_simp); have HR3 := Lib.hid hr3; have HK3 := Lib.hid (show Kept (But b) _ w3 from hk3); clear hr3 hk3); have HI3 := HR3.out; obtain ⟨i3, c0, c1, c2, c3, c4, c5, c6, c7⟩ := HI3; have C3 := Lib.hid c3; have hb3 : b < w3.heap.size := World.block_lt_of_cell? _ _ c1; have hD3 : w1.heap.size < w3.heap.size := World.block_lt_of_cell? _ _ pd0; have hR3 : w.heap.size < w3.heap.size := World.block_lt_of_cell? _ _ pr0; have hbD : ¬ b = w1.heap.size := (by omega); have hbR : ¬ b = w.heap.size := (by omega); clear c3))
  cases hsh : nn.2.2 with
  | true =>
    rw [hsh] at c2
    clear hsh
    refine wp_region_later fol (by kernel_rfl) (fun hlater => ?_)
    repeat (go_big_quiet_step (fail))
    refine wpQuiet_nil ?_
    rintro w4 ⟨⟨w4x, hx4⟩, rfl⟩
    clear hlater
    have qd0 := (hx4.cells _ 0 hD3).trans pd0
    have qfd0 := (hx4.frz _ 0 hD3).trans pfd0
    have qd1 := (hx4.cells _ 1 hD3).trans pd1
    have qfd1 := (hx4.frz _ 1 hD3).trans pfd1
    have qd2 := (hx4.cells _ 2 hD3).trans pd2
    have qfd2 := (hx4.frz _ 2 hD3).trans pfd2
    have qd3 := (hx4.cells _ 3 hD3).trans pd3
    have qfd3 := (hx4.frz _ 3 hD3).trans pfd3
    have qd4 := (hx4.cells _ 4 hD3).trans pd4
    have qfd4 := (hx4.frz _ 4 hD3).trans pfd4
    have qd5 := (hx4.cells _ 5 hD3).trans pd5
    have qfd5 := (hx4.frz _ 5 hD3).trans pfd5
    have qd6 := (hx4.cells _ 6 hD3).trans pd6
    have qfd6 := (hx4.frz _ 6 hD3).trans pfd6
    have qr0 := (hx4.cells _ 0 hR3).trans pr0
    have qfr0 := (hx4.frz _ 0 hR3).trans pfr0
    have qr1 := (hx4.cells _ 1 hR3).trans pr1
    have qfr1 := (hx4.frz _ 1 hR3).trans pfr1
    have qr2 := (hx4.cells _ 2 hR3).trans pr2
    have qfr2 := (hx4.frz _ 2 hR3).trans pfr2
    have qr3 := (hx4.cells _ 3 hR3).trans pr3
    have qfr3 := (hx4.frz _ 3 hR3).trans pfr3
    have qr4 := (hx4.cells _ 4 hR3).trans pr4
    have qfr4 := (hx4.frz _ 4 hR3).trans pfr4
    have qr5 := (hx4.cells _ 5 hR3).trans pr5
    have qfr5 := (hx4.frz _ 5 hR3).trans pfr5
    have qr6 := (hx4.cells _ 6 hR3).trans pr6
    have qfr6 := (hx4.frz _ 6 hR3).trans pfr6
    have e0 := (hx4.cells _ 0 hb3).trans c0
    have e1 := (hx4.cells _ 1 hb3).trans c1
    have e2 := (hx4.cells _ 2 hb3).trans c2
    have e5 := (hx4.frz _ 1 hb3).trans c5
    have e6 := (hx4.frz _ 2 hb3).trans c6
    have hs4 := hx4.size
    have hb4 : b < w4.heap.size := (by omega)
    have hD4 : w1.heap.size < w4.heap.size := (by omega)
    have hR4 : w.heap.size < w4.heap.size := (by omega)
    have HX4 := Lib.hid hx4
    clear c0 c1 c2 c5 c6 pd0 pfd0 pd1 pfd1 pd2 pfd2 pd3 pfd3 pd4 pfd4 pd5 pfd5 pd6 pfd6 pr0 pfr0 pr1 pfr1 pr2 pfr2 pr3 pfr3 pr4 pfr4 pr5 pfr5 pr6 pfr6 hx4
    go_wp2_with fail
    refine body_name (fun W9 hW9 => ?_)
    have z0 : W9.cell? ⟨w.heap.size, 0, none⟩ = some (.int .i64 1) := by rw [hW9]; go_simp
    have z1 : W9.cell? ⟨w.heap.size, 1, none⟩ = some (.slice a2 n2 c2) := by rw [hW9]; go_simp
    have z2 : W9.cell? ⟨w.heap.size, 2, none⟩ = some (.int .i64 mm.1.2) := by rw [hW9]; go_simp
    have z3 : W9.cell? ⟨w.heap.size, 3, none⟩ = some (.string ⟨#[]⟩) := by rw [hW9]; go_simp
    have z4 : W9.cell? ⟨w.heap.size, 4, none⟩ = some (.slice none 0 0) := by rw [hW9]; go_simp
    have z5 : W9.cell? ⟨w.heap.size, 5, none⟩ = some (.int .i64 0) := by rw [hW9]; go_simp
    have z6 : W9.cell? ⟨w.heap.size, 6, none⟩ = some (.int .i64 0) := by rw [hW9]; go_simp
    have hk9 : ∀ Z : Nat → Prop, ¬ Z b → ¬ Z w.heap.size → Kept Z w4 W9 := by intro Z zb zr; rw [hW9]; exact (kept_set (p := ⟨w.heap.size, 6, none⟩) (kept_set (p := ⟨w.heap.size, 5, none⟩) (kept_set (p := ⟨w.heap.size, 4, none⟩) (kept_set (p := ⟨w.heap.size, 3, none⟩) (kept_set (p := ⟨w.heap.size, 2, none⟩) (kept_set (p := ⟨w.heap.size, 1, none⟩) (kept_set (p := ⟨w.heap.size, 0, none⟩) (kept_set (p := ⟨b, 2, none⟩) kept_refl zb _) zr _) zr _) zr _) zr _) zr _) zr _) zr _)
    have htk : TkAt b S (nn.2.1, true) W9 := by rw [hW9]; refine ⟨i3, ?_, ?_, ?_, C3.out, c4, ?_, ?_, c7⟩ <;> go_simp
    clear hW9
    have hch : ∀ Z : Nat → Prop, ¬ Z b → ¬ Z w1.heap.size → ¬ Z w.heap.size → Kept Z w2 W9 := fun Z zb zd zr => kept_trans (kept_set (p := ⟨w1.heap.size, 2, none⟩) (kept_set (p := ⟨w1.heap.size, 1, none⟩) kept_refl zd _) zd _) (kept_trans (HK3.out.less (fun k hk e => zb (e ▸ hk))) (kept_trans (kept_ext HX4.out) (hk9 Z zb zr)))
    refine bodyPost_ret (v := .agg #[.int .i64 1, .slice a2 n2 c2, .int .i64 mm.1.2, .string ⟨#[]⟩, .slice none 0 0, .int .i64 0, .int .i64 0]) (by simp [results, Try.results37, go_sem, z0, z1, z2, z3, z4, z5, z6]) rfl ?_
    rw [HP.out]
    have h00 : I64 0 := ⟨by decide, by decide⟩
    refine ⟨[.int .i64 1, .slice a2 n2 c2, .int .i64 mm.1.2, .string ⟨#[]⟩, .slice none 0 0, .int .i64 0, .int .i64 0], rfl, ⟨_, _, _, rfl, HIK.out, RSl.more gStp (fun k hk _ => by have hk' : w1.heap.size < k := hk; show w.heap.size ≤ k; omega) (HM2.out.keep gStp (hch (fun k => w1.heap.size < k) (by omega) (by omega) (by omega)).keeps), HI2.out, rtx_nil, RSl.nil_ (Nat.zero_le _), h00, h00⟩, htk, ?_⟩
    exact kept_lt (kept_trans (HK1.out.less (fun k hk => hk.2)) (kept_trans (HK2.out.less (fun k hk => hk.2)) (hch (fun k => k < w.heap.size ∧ k ≠ b) (fun h => h.2 rfl) (fun h => by have := h.1; omega) (fun h => by have := h.1; omega))))
  | false =>
    have HLN := Lib.hid (show S.size - i3 < n by
      have h := C3.out
      have h2 : nn.2.1.length = S.size - i3 := by rw [← h, List.length_drop, Array.length_toList]; rfl
      rcases HBD.out with h' | h'
      · rw [hsh] at h'; cases h'
      · omega)
    rw [hsh] at c2
    have t5 : decide ((S.size : Int) - (i3 : Int) < (n : Int)) = true := decide_eq_true (by have := HLN.out; omega)
    clear hsh
    refine wp_region_later fol (by kernel_rfl) (fun hlater => ?_)
    repeat (go_big_quiet_step (fail))
    refine wpQuiet_nil ?_
    rintro w4 ⟨⟨w4x, hx4⟩, rfl⟩
    clear hlater
    have qd0 := (hx4.cells _ 0 hD3).trans pd0
    have qfd0 := (hx4.frz _ 0 hD3).trans pfd0
    have qd1 := (hx4.cells _ 1 hD3).trans pd1
    have qfd1 := (hx4.frz _ 1 hD3).trans pfd1
    have qd2 := (hx4.cells _ 2 hD3).trans pd2
    have qfd2 := (hx4.frz _ 2 hD3).trans pfd2
    have qd3 := (hx4.cells _ 3 hD3).trans pd3
    have qfd3 := (hx4.frz _ 3 hD3).trans pfd3
    have qd4 := (hx4.cells _ 4 hD3).trans pd4
    have qfd4 := (hx4.frz _ 4 hD3).trans pfd4
    have qd5 := (hx4.cells _ 5 hD3).trans pd5
    have qfd5 := (hx4.frz _ 5 hD3).trans pfd5
    have qd6 := (hx4.cells _ 6 hD3).trans pd6
    have qfd6 := (hx4.frz _ 6 hD3).trans pfd6
    have qr0 := (hx4.cells _ 0 hR3).trans pr0
    have qfr0 := (hx4.frz _ 0 hR3).trans pfr0
    have qr1 := (hx4.cells _ 1 hR3).trans pr1
    have qfr1 := (hx4.frz _ 1 hR3).trans pfr1
    have qr2 := (hx4.cells _ 2 hR3).trans pr2
    have qfr2 := (hx4.frz _ 2 hR3).trans pfr2
    have qr3 := (hx4.cells _ 3 hR3).trans pr3
    have qfr3 := (hx4.frz _ 3 hR3).trans pfr3
    have qr4 := (hx4.cells _ 4 hR3).trans pr4
    have qfr4 := (hx4.frz _ 4 hR3).trans pfr4
    have qr5 := (hx4.cells _ 5 hR3).trans pr5
    have qfr5 := (hx4.frz _ 5 hR3).trans pfr5
    have qr6 := (hx4.cells _ 6 hR3).trans pr6
    have qfr6 := (hx4.frz _ 6 hR3).trans pfr6
    have e0 := (hx4.cells _ 0 hb3).trans c0
    have e1 := (hx4.cells _ 1 hb3).trans c1
    have e2 := (hx4.cells _ 2 hb3).trans c2
    have e5 := (hx4.frz _ 1 hb3).trans c5
    have e6 := (hx4.frz _ 2 hb3).trans c6
    have hs4 := hx4.size
    have hb4 : b < w4.heap.size := (by omega)
    have hD4 : w1.heap.size < w4.heap.size := (by omega)
    have hR4 : w.heap.size < w4.heap.size := (by omega)
    have HX4 := Lib.hid hx4
    clear c0 c1 c2 c5 c6 pd0 pfd0 pd1 pfd1 pd2 pfd2 pd3 pfd3 pd4 pfd4 pd5 pfd5 pd6 pfd6 pr0 pfr0 pr1 pfr1 pr2 pfr2 pr3 pfr3 pr4 pfr4 pr5 pfr5 pr6 pfr6 hx4
    go_wp2_with fail
    refine body_name (fun W9 hW9 => ?_)
    have z0 : W9.cell? ⟨w.heap.size, 0, none⟩ = some (.int .i64 1) := by rw [hW9]; go_simp
    have z1 : W9.cell? ⟨w.heap.size, 1, none⟩ = some (.slice a2 n2 c2) := by rw [hW9]; go_simp
    have z2 : W9.cell? ⟨w.heap.size, 2, none⟩ = some (.int .i64 mm.1.2) := by rw [hW9]; go_simp
    have z3 : W9.cell? ⟨w.heap.size, 3, none⟩ = some (.string ⟨#[]⟩) := by rw [hW9]; go_simp
    have z4 : W9.cell? ⟨w.heap.size, 4, none⟩ = some (.slice none 0 0) := by rw [hW9]; go_simp
    have z5 : W9.cell? ⟨w.heap.size, 5, none⟩ = some (.int .i64 0) := by rw [hW9]; go_simp
    have z6 : W9.cell? ⟨w.heap.size, 6, none⟩ = some (.int .i64 0) := by rw [hW9]; go_simp
    have hk9 : ∀ Z : Nat → Prop, ¬ Z b → ¬ Z w.heap.size → Kept Z w4 W9 := by intro Z zb zr; rw [hW9]; exact (kept_set (p := ⟨w.heap.size, 6, none⟩) (kept_set (p := ⟨w.heap.size, 5, none⟩) (kept_set (p := ⟨w.heap.size, 4, none⟩) (kept_set (p := ⟨w.heap.size, 3, none⟩) (kept_set (p := ⟨w.heap.size, 2, none⟩) (kept_set (p := ⟨w.heap.size, 1, none⟩) (kept_set (p := ⟨w.heap.size, 0, none⟩) (kept_set (p := ⟨b, 2, none⟩) kept_refl zb _) zr _) zr _) zr _) zr _) zr _) zr _) zr _)
    have htk : TkAt b S (nn.2.1, true) W9 := by rw [hW9]; refine ⟨i3, ?_, ?_, ?_, C3.out, c4, ?_, ?_, c7⟩ <;> go_simp
    clear hW9
    have hch : ∀ Z : Nat → Prop, ¬ Z b → ¬ Z w1.heap.size → ¬ Z w.heap.size → Kept Z w2 W9 := fun Z zb zd zr => kept_trans (kept_set (p := ⟨w1.heap.size, 2, none⟩) (kept_set (p := ⟨w1.heap.size, 1, none⟩) kept_refl zd _) zd _) (kept_trans (HK3.out.less (fun k hk e => zb (e ▸ hk))) (kept_trans (kept_ext HX4.out) (hk9 Z zb zr)))
    refine bodyPost_ret (v := .agg #[.int .i64 1, .slice a2 n2 c2, .int .i64 mm.1.2, .string ⟨#[]⟩, .slice none 0 0, .int .i64 0, .int .i64 0]) (by simp [results, Try.results37, go_sem, z0, z1, z2, z3, z4, z5, z6]) rfl ?_
    rw [HP.out]
    have h00 : I64 0 := ⟨by decide, by decide⟩
    refine ⟨[.int .i64 1, .slice a2 n2 c2, .int .i64 mm.1.2, .string ⟨#[]⟩, .slice none 0 0, .int .i64 0, .int .i64 0], rfl, ⟨_, _, _, rfl, HIK.out, RSl.more gStp (fun k hk _ => by have hk' : w1.heap.size < k := hk; show w.heap.size ≤ k; omega) (HM2.out.keep gStp (hch (fun k => w1.heap.size < k) (by omega) (by omega) (by omega)).keeps), HI2.out, rtx_nil, RSl.nil_ (Nat.zero_le _), h00, h00⟩, htk, ?_⟩
    exact kept_lt (kept_trans (HK1.out.less (fun k hk => hk.2)) (kept_trans (HK2.out.less (fun k hk => hk.2)) (hch (fun k => k < w.heap.size ∧ k ≠ b) (fun h => h.2 rfl) (fun h => by have := h.1; omega) (fun h => by have := h.1; omega))))
end Go.Proofs.Ytiladkinndgeaaa
/- The document's reader: a deed that puts. -/
namespace Go.Proofs.Ytiladkinndgeaaa
open Go Go.RowKit Go.BigFrame Cp

theorem ex_sub (s : ByteArray) (i n : Nat) : (s.extract i (i + n)).data.toList = (s.data.toList.drop i).take n := by
  simp [ByteArray.data_extract, List.extract_eq_take_drop]
set_option maxRecDepth 100000 in
set_option maxHeartbeats 4000000 in
theorem deedT1b_any {w : World} {b : Nat} {S : ByteArray} {r : PS} {x : Int × PS} (h : TkAt b S r w) (hx : x = oneR r) (h1 : x.1 = 1) {mm : Mk × PS} {nn : Int × PS} (hmm : mm = markR x.2) (hnn : nn = oneR mm.2) (hbd : ¬ (nn.2.2 = true ∨ (nn.2.1.length : Int) < nn.1)) :
    Calls Try.prog 37 #[.pointer (some ⟨b, 0, none⟩)] w (IsDeT b S (deedR r) w) := by
  have hb := tkAt_lt h
  have hrb : w.heap.size ≠ b := by omega
  have HR := Lib.hid h
  have HN1 := Lib.hid (fun (W : World) (h : TkAt b S r W) => one_any h)
  have HIK := Lib.hid (one_i64 r)
  rw [← hx] at HN1 HIK
  obtain ⟨k0, kr⟩ := x
  simp only at HIK h1 hmm
  have HX := Lib.hid hx
  clear h hx
  have t1 : (k0 == 1) = true := by rw [h1]; rfl
  obtain ⟨n, hn, hn5⟩ := one_nat mm.2
  rw [← hnn] at hn
  have HMK := Lib.hid (fun (W : World) (h : TkAt b S kr W) => (hmm ▸ markT_any h : Calls _ _ _ _ (IsMkT b S mm W)))
  have HN2 := Lib.hid (fun (W : World) (h : TkAt b S mm.2 W) => (one_any h).mono (R' := fun e w' => e = .returned (.int .i64 (n : Int)) ∧ TkAt b S nn.2 w' ∧ Kept (But b) W w') (fun e w' ⟨h1, h2, h3⟩ => ⟨by rw [h1, ← hnn, hn], hnn ▸ h2, h3⟩))
  have hsh : nn.2.2 = false := by cases h : nn.2.2 with | false => rfl | true => exact absurd (.inl h) hbd
  have HP := Lib.hid (show deedR r = (⟨1, (mm.1, nn.2.1.take n), ([], 0), 0⟩, (nn.2.1.drop n, false)) by have := deedR_put HX.out h1 hmm hnn hbd; rw [this, hn, Int.toNat_natCast, hsh])
  have HBD := Lib.hid (show n ≤ nn.2.1.length from Nat.le_of_not_lt (fun h => hbd (.inr (by rw [hn]; omega))))
  have HSH := Lib.hid hsh
  clear hn HX hmm hnn hbd hsh
  subst h1
  go_enter Try.func37, Try.ntmps37
  go_wp2_with (first | (go_at_call 35; ((with_reducible refine (HN1.out _ (tkAt_ext HR.out extA)).mono ?_); rintro e w1 ⟨rfl, hr1, hk1⟩; have hl1 : w.heap.size < w1.heap.size := Nat.lt_of_lt_of_le (by first | omega | (simp <;> omega)) hk1.size; have hdb : w1.heap.size ≠ b := (by omega); have hrd : ¬ w.heap.size = w1.heap.size := (by omega); have nr0 := (hk1.cell hrb (by first | omega | (simp <;> omega)) 0).trans (show _ = some (.int .i64 0) by first | (with_reducible assumption) | go_simp); have nfr0 := (hk1.frz hrb (by first | omega | (simp <;> omega)) 0).trans (show _ = false by first | (with_reducible assumption) | go_simp); have nr1 := (hk1.cell hrb (by first | omega | (simp <;> omega)) 1).trans (show _ = some (.slice none 0 0) by first | (with_reducible assumption) | go_simp); have nfr1 := (hk1.frz hrb (by first | omega | (simp <;> omega)) 1).trans (show _ = false by first | (with_reducible assumption) | go_simp); have nr2 := (hk1.cell hrb (by first | omega | (simp <;> omega)) 2).trans (show _ = some (.int .i64 0) by first | (with_reducible assumption) | go_simp); have nfr2 := (hk1.frz hrb (by first | omega | (simp <;> omega)) 2).trans (show _ = false by first | (with_reducible assumption) | go_simp); have nr3 := (hk1.cell hrb (by first | omega | (simp <;> omega)) 3).trans (show _ = some (.string ⟨#[]⟩) by first | (with_reducible assumption) | go_simp); have nfr3 := (hk1.frz hrb (by first | omega | (simp <;> omega)) 3).trans (show _ = false by first | (with_reducible assumption) | go_simp); have nr4 := (hk1.cell hrb (by first | omega | (simp <;> omega)) 4).trans (show _ = some (.slice none 0 0) by first | (with_reducible assumption) | go_simp); have nfr4 := (hk1.frz hrb (by first | omega | (simp <;> omega)) 4).trans (show _ = false by first | (with_reducible assumption) | go_simp); have nr5 := (hk1.cell hrb (by first | omega | (simp <;> omega)) 5).trans (show _ = some (.int .i64 0) by first | (with_reducible assumption) | go_simp); have nfr5 := (hk1.frz hrb (by first | omega | (simp <;> omega)) 5).trans (show _ = false by first | (with_reducible assumption) | go_simp); have nr6 := (hk1.cell hrb (by first | omega | (simp <;> omega)) 6).trans (show _ = some (.int .i64 0) by first | (with_reducible assumption) | go_simp); have nfr6 := (hk1.frz hrb (by first | omega | (simp <;> omega)) 6).trans (show _ = false by first | (with_reducible assumption) | go_simp); have HR1 := Lib.hid hr1; have HK1 := Lib.hid (show Kept (But b) w w1 from kept_trans (kept_ext extA) hk1); clear hr1 hk1 HN1)) | (go_at_call 56; go_must ((with_reducible refine (HMK.out _ (tkAt_ext HR1.out extA)).mono ?_); rintro e w2 ⟨v2, rfl, hm2, hr2, hk2⟩; obtain ⟨v2', hv2, hm2, hi2⟩ := hm2; injection hv2 with hv2; subst hv2; obtain ⟨a2, n2, c2, rfl⟩ := hm2.slice; have hz2 := hk2.size; (try simp at hz2); have md0 := (hk2.cell (show w1.heap.size ≠ b by assumption) (by first | omega | (simp <;> omega)) 0).trans (show _ = some (.int .i64 1) by first | (with_reducible assumption) | go_simp); have mfd0 := (hk2.frz (show w1.heap.size ≠ b by assumption) (by first | omega | (simp <;> omega)) 0).trans (show _ = false by first | (with_reducible assumption) | go_simp); have md1 := (hk2.cell (show w1.heap.size ≠ b by assumption) (by first | omega | (simp <;> omega)) 1).trans (show _ = some (.slice none 0 0) by first | (with_reducible assumption) | go_simp); have mfd1 := (hk2.frz (show w1.heap.size ≠ b by assumption) (by first | omega | (simp <;> omega)) 1).trans (show _ = false by first | (with_reducible assumption) | go_simp); have md2 := (hk2.cell (show w1.heap.size ≠ b by assumption) (by first | omega | (simp <;> omega)) 2).trans (show _ = some (.int .i64 0) by first | (with_reducible assumption) | go_simp); have mfd2 := (hk2.frz (show w1.heap.size ≠ b by assumption) (by first | omega | (simp <;> omega)) 2).trans (show _ = false by first | (with_reducible assumption) | go_simp); have md3 := (hk2.cell (show w1.heap.size ≠ b by assumption) (by first | omega | (simp <;> omega)) 3).trans (show _ = some (.string ⟨#[]⟩) by first | (with_reducible assumption) | go_simp); have mfd3 := (hk2.frz (show w1.heap.size ≠ b by assumption) (by first | omega | (simp <;> omega)) 3).trans (show _ = false by first | (with_reducible assumption) | go_simp); have md4 := (hk2.cell (show w1.heap.size ≠ b by assumption) (by first | omega | (simp <;> omega)) 4).trans (show _ = some (.slice none 0 0) by first | (with_reducible assumption) | go_simp); have mfd4 := (hk2.frz (show w1.heap.size ≠ b by assumption) (by first | omega | (simp <;> omega)) 4).trans (show _ = false by first | (with_reducible assumption) | go_simp); have md5 := (hk2.cell (show w1.heap.size ≠ b by assumption) (by first | omega | (simp <;> omega)) 5).trans (show _ = some (.int .i64 0) by first | (with_reducible assumption) | go_simp); have mfd5 := (hk2.frz (show w1.heap.size ≠ b by assumption) (by first | omega | (simp <;> omega)) 5).trans (show _ = false by first | (with_reducible assumption) | go_simp); have md6 := (hk2.cell (show w1.heap.size ≠ b by assumption) (by first | omega | (simp <;> omega)) 6).trans (show _ = some (.int .i64 0) by first | (with_reducible assumption) | go_simp); have mfd6 := (hk2.frz (show w1.heap.size ≠ b by assumption) (by first | omega | (simp <;> omega)) 6).trans (show _ = false by first | (with_reducible assumption) | go_simp); have mr0 := (hk2.cell (show w.heap.size ≠ b by assumption) (by first | omega | (simp <;> omega)) 0).trans (show _ = some (.int .i64 0) by first | (with_reducible assumption) | go_simp); have mfr0 := (hk2.frz (show w.heap.size ≠ b by assumption) (by first | omega | (simp <;> omega)) 0).trans (show _ = false by first | (with_reducible assumption) | go_simp); have mr1 := (hk2.cell (show w.heap.size ≠ b by assumption) (by first | omega | (simp <;> omega)) 1).trans (show _ = some (.slice none 0 0) by first | (with_reducible assumption) | go_simp); have mfr1 := (hk2.frz (show w.heap.size ≠ b by assumption) (by first | omega | (simp <;> omega)) 1).trans (show _ = false by first | (with_reducible assumption) | go_simp); have mr2 := (hk2.cell (show w.heap.size ≠ b by assumption) (by first | omega | (simp <;> omega)) 2).trans (show _ = some (.int .i64 0) by first | (with_reducible assumption) | go_simp); have mfr2 := (hk2.frz (show w.heap.size ≠ b by assumption) (by first | omega | (simp <;> omega)) 2).trans (show _ = false by first | (with_reducible assumption) | go_simp); have mr3 := (hk2.cell (show w.heap.size ≠ b by assumption) (by first | omega | (simp <;> omega)) 3).trans (show _ = some (.string ⟨#[]⟩) by first | (with_reducible assumption) | go_simp); have mfr3 := (hk2.frz (show w.heap.size ≠ b by assumption) (by first | omega | (simp <;> omega)) 3).trans (show _ = false by first | (with_reducible assumption) | go_simp); have mr4 := (hk2.cell (show w.heap.size ≠ b by assumption) (by first | omega | (simp <;> omega)) 4).trans (show _ = some (.slice none 0 0) by first | (with_reducible assumption) | go_simp); have mfr4 := (hk2.frz (show w.heap.size ≠ b by assumption) (by first | omega | (simp <;> omega)) 4).trans (show _ = false by first | (with_reducible assumption) | go_simp); have mr5 := (hk2.cell (show w.heap.size ≠ b by assumption) (by first | omega | (simp <;> omega)) 5).trans (show _ = some (.int .i64 0) by first | (with_reducible assumption) | go_simp); have mfr5 := (hk2.frz (show w.heap.size ≠ b by assumption) (by first | omega | (simp <;> omega)) 5).trans (show _ = false by first | (with_reducible assumption) | go_simp); have mr6 := (hk2.cell (show w.heap.size ≠ b by assumption) (by first | omega | (simp <;> omega)) 6).trans (show _ = some (.int .i64 0) by first | (with_reducible assumption) | go_simp); have mfr6 := (hk2.frz (show w.heap.size ≠ b by assumption) (by first | omega | (simp <;> omega)) 6).trans (show _ = false by first | (with_reducible assumption) | go_simp); have HR2 := Lib.hid hr2; have HK2 := Lib.hid (show Kept (But b) w1 w2 from kept_trans (kept_ext extA) hk2); have HM2 := Lib.hid (RSl.more gStp (G := fun k => w1.heap.size < k) (fun k hk _ => by (try simp at hk); omega) hm2); have HI2 := Lib.hid hi2; clear hr2 hk2 hm2 hi2)) | (go_at_call 35; go_must ((with_reducible refine (HN2.out _ (tkAt_kept HR2.out (Z := fun k => k = b) (kept_set (p := ⟨w1.heap.size, 2, none⟩) (kept_set (p := ⟨w1.heap.size, 1, none⟩) kept_refl hdb _) hdb _) rfl)).mono ?_); rintro e w3 ⟨rfl, hr3, hk3⟩; have hz3 := hk3.size; (try simp at hz3); have pd0 := (hk3.cell (show w1.heap.size ≠ b by assumption) (by first | omega | (simp <;> omega)) 0).trans (show _ = some (.int .i64 1) by first | (with_reducible assumption) | go_simp); have pfd0 := (hk3.frz (show w1.heap.size ≠ b by assumption) (by first | omega | (simp <;> omega)) 0).trans (show _ = false by first | (with_reducible assumption) | go_simp); have pd1 := (hk3.cell (show w1.heap.size ≠ b by assumption) (by first | omega | (simp <;> omega)) 1).trans (show _ = some (.slice a2 n2 c2) by first | (with_reducible assumption) | go_simp); have pfd1 := (hk3.frz (show w1.heap.size ≠ b by assumption) (by first | omega | (simp <;> omega)) 1).trans (show _ = false by first | (with_reducible assumption) | go_simp); have pd2 := (hk3.cell (show w1.heap.size ≠ b by assumption) (by first | omega | (simp <;> omega)) 2).trans (show _ = some (.int .i64 mm.1.2) by first | (with_reducible assumption) | go_simp); have pfd2 := (hk3.frz (show w1.heap.size ≠ b by assumption) (by first | omega | (simp <;> omega)) 2).trans (show _ = false by first | (with_reducible assumption) | go_simp); have pd3 := (hk3.cell (show w1.heap.size ≠ b by assumption) (by first | omega | (simp <;> omega)) 3).trans (show _ = some (.string ⟨#[]⟩) by first | (with_reducible assumption) | go_simp); have pfd3 := (hk3.frz (show w1.heap.size ≠ b by assumption) (by first | omega | (simp <;> omega)) 3).trans (show _ = false by first | (with_reducible assumption) | go_simp); have pd4 := (hk3.cell (show w1.heap.size ≠ b by assumption) (by first | omega | (simp <;> omega)) 4).trans (show _ = some (.slice none 0 0) by first | (with_reducible assumption) | go_simp); have pfd4 := (hk3.frz (show w1.heap.size ≠ b by assumption) (by first | omega | (simp <;> omega)) 4).trans (show _ = false by first | (with_reducible assumption) | go_simp); have pd5 := (hk3.cell (show w1.heap.size ≠ b by assumption) (by first | omega | (simp <;> omega)) 5).trans (show _ = some (.int .i64 0) by first | (with_reducible assumption) | go_simp); have pfd5 := (hk3.frz (show w1.heap.size ≠ b by assumption) (by first | omega | (simp <;> omega)) 5).trans (show _ = false by first | (with_reducible assumption) | go_simp); have pd6 := (hk3.cell (show w1.heap.size ≠ b by assumption) (by first | omega | (simp <;> omega)) 6).trans (show _ = some (.int .i64 0) by first | (with_reducible assumption) | go_simp); have pfd6 := (hk3.frz (show w1.heap.size ≠ b by assumption) (by first | omega | (simp <;> omega)) 6).trans (show _ = false by first | (with_reducible assumption) | go_simp); have pr0 := (hk3.cell (show w.heap.size ≠ b by assumption) (by first | omega | (simp <;> omega)) 0).trans (show _ = some (.int .i64 0) by first | (with_reducible assumption) | go_simp); have pfr0 := (hk3.frz (show w.heap.size ≠ b by assumption) (by first | omega | (simp <;> omega)) 0).trans (show _ = false by first | (with_reducible assumption) | go_simp); have pr1 := (hk3.cell (show w.heap.size ≠ b by assumption) (by first | omega | (simp <;> omega)) 1).trans (show _ = some (.slice none 0 0) by first | (with_reducible assumption) | go_simp); have pfr1 := (hk3.frz (show w.heap.size ≠ b by assumption) (by first | omega | (simp <;> omega)) 1).trans (show _ = false by first | (with_reducible assumption) | go_simp); have pr2 := (hk3.cell (show w.heap.size ≠ b by assumption) (by first | omega | (simp <;> omega)) 2).trans (show _ = some (.int .i64 0) by first | (with_reducible assumption) | go_simp); have pfr2 := (hk3.frz (show w.heap.size ≠ b by assumption) (by first | omega | (simp <;> omega)) 2).trans (show _ = false by first | (with_reducible assumption) | go_simp); have pr3 := (hk3.cell (show w.heap.size ≠ b by assumption) (by first | omega | (simp <;> omega)) 3).trans (show _ = some (.string ⟨#[]⟩) by first | (with_reducible assumption) | go_simp); have pfr3 := (hk3.frz (show w.heap.size ≠ b by assumption) (by first | omega | (simp <;> omega)) 3).trans (show _ = false by first | (with_reducible assumption) | go_simp); have pr4 := (hk3.cell (show w.heap.size ≠ b by assumption) (by first | omega | (simp <;> omega)) 4).trans (show _ = some (.slice none 0 0) by first | (with_reducible assumption) | go_simp); have pfr4 := (hk3.frz (show w.heap.size ≠ b by assumption) (by first | omega | (simp <;> omega)) 4).trans (show _ = false by first | (with_reducible assumption) | go_simp); have pr5 := (hk3.cell (show w.heap.size ≠ b by assumption) (by first | omega | (simp <;> omega)) 5).trans (show _ = some (.int .i64 0) by first | (with_reducible assumption) | go_simp); have pfr5 := (hk3.frz (show w.heap.size ≠ b by assumption) (by first | omega | (simp <;> omega)) 5).trans (show _ = false by first | (with_reducible assumption) | go_simp); have pr6 := (hk3.cell (show w.heap.size ≠ b by assumption) (by first | omega | (simp <;> omega)) 6).trans (show _ = some (.int .i64 0) by first | (with_reducible assumption) | go_simp); have pfr6 := (hk3.frz (show w.heap.size ≠ b by assumption) (by first | omega | (simp <;> omega)) 6).trans (show _ = false by first | (with_reducible assumption) | go_simp); have HR3 := Lib.hid hr3; have HK3 := Lib.hid (show Kept (But b) _ w3 from hk3); clear hr3 hk3); have HI3 := HR3.out; obtain ⟨i3, c0, c1, c2, c3, c4, c5, c6, c7⟩ := HI3; have C3 := Lib.hid c3; have hb3 : b < w3.heap.size := World.block_lt_of_cell? _ _ c1; have hD3 : w1.heap.size < w3.heap.size := World.block_lt_of_cell? _ _ pd0; have hR3 : w.heap.size < w3.heap.size := World.block_lt_of_cell? _ _ pr0; have hbD : ¬ b = w1.heap.size := (by omega); have hbR : ¬ b = w.heap.size := (by omega); clear c3))
  have HL3 := Lib.hid (show nn.2.1.length = S.size - i3 by have h := C3.out; rw [← h, List.length_drop, Array.length_toList]; rfl)
  have HLN := Lib.hid (show i3 + n ≤ S.size by have h1 := HL3.out; have h2 := HBD.out; omega)
  have HDR := Lib.hid (show S.data.toList.drop (i3 + n) = nn.2.1.drop n by rw [← C3.out, List.drop_drop])
  have HTX := Lib.hid (show RTx (.string (S.extract i3 (i3 + n))) (nn.2.1.take n) from rtx_of' (by rw [← C3.out]; exact ex_sub S i3 n) (by rw [List.length_take]; omega))
  rw [HSH.out] at c2
  have hin := HLN.out
  have t5 : decide ((S.size : Int) - (i3 : Int) < (n : Int)) = false := decide_eq_false (by omega)
  go_wp2_with fail
  refine wp_region_later fol (by kernel_rfl) (fun hlater => ?_)
  repeat (go_big_quiet_step (fail))
  refine wpQuiet_nil ?_
  rintro w4 ⟨⟨w4x, hx4⟩, rfl⟩
  clear hlater
  have qd0 := (hx4.cells _ 0 hD3).trans pd0
  have qfd0 := (hx4.frz _ 0 hD3).trans pfd0
  have qd1 := (hx4.cells _ 1 hD3).trans pd1
  have qfd1 := (hx4.frz _ 1 hD3).trans pfd1
  have qd2 := (hx4.cells _ 2 hD3).trans pd2
  have qfd2 := (hx4.frz _ 2 hD3).trans pfd2
  have qd3 := (hx4.cells _ 3 hD3).trans pd3
  have qfd3 := (hx4.frz _ 3 hD3).trans pfd3
  have qd4 := (hx4.cells _ 4 hD3).trans pd4
  have qfd4 := (hx4.frz _ 4 hD3).trans pfd4
  have qd5 := (hx4.cells _ 5 hD3).trans pd5
  have qfd5 := (hx4.frz _ 5 hD3).trans pfd5
  have qd6 := (hx4.cells _ 6 hD3).trans pd6
  have qfd6 := (hx4.frz _ 6 hD3).trans pfd6
  have qr0 := (hx4.cells _ 0 hR3).trans pr0
  have qfr0 := (hx4.frz _ 0 hR3).trans pfr0
  have qr1 := (hx4.cells _ 1 hR3).trans pr1
  have qfr1 := (hx4.frz _ 1 hR3).trans pfr1
  have qr2 := (hx4.cells _ 2 hR3).trans pr2
  have qfr2 := (hx4.frz _ 2 hR3).trans pfr2
  have qr3 := (hx4.cells _ 3 hR3).trans pr3
  have qfr3 := (hx4.frz _ 3 hR3).trans pfr3
  have qr4 := (hx4.cells _ 4 hR3).trans pr4
  have qfr4 := (hx4.frz _ 4 hR3).trans pfr4
  have qr5 := (hx4.cells _ 5 hR3).trans pr5
  have qfr5 := (hx4.frz _ 5 hR3).trans pfr5
  have qr6 := (hx4.cells _ 6 hR3).trans pr6
  have qfr6 := (hx4.frz _ 6 hR3).trans pfr6
  have e0 := (hx4.cells _ 0 hb3).trans c0
  have e1 := (hx4.cells _ 1 hb3).trans c1
  have e2 := (hx4.cells _ 2 hb3).trans c2
  have e5 := (hx4.frz _ 1 hb3).trans c5
  have e6 := (hx4.frz _ 2 hb3).trans c6
  have hs4 := hx4.size
  have hb4 : b < w4.heap.size := (by omega)
  have hD4 : w1.heap.size < w4.heap.size := (by omega)
  have hR4 : w.heap.size < w4.heap.size := (by omega)
  have HX4 := Lib.hid hx4
  clear c0 c1 c2 c5 c6 pd0 pfd0 pd1 pfd1 pd2 pfd2 pd3 pfd3 pd4 pfd4 pd5 pfd5 pd6 pfd6 pr0 pfr0 pr1 pfr1 pr2 pfr2 pr3 pfr3 pr4 pfr4 pr5 pfr5 pr6 pfr6 hx4
  go_wp2_with fail
  have hw2 : IntKind.i64.wrap ((i3 : Int) + (n : Int)) = ((i3 + n : Nat) : Int) := (IntWalk.i64_left _).trans (IntWalk.wrap64_in _ (by omega))
  have hB : (i3 : Int) ≤ ((i3 + n : Nat) : Int) := by omega
  have hC : ((i3 + n : Nat) : Int) ≤ (S.size : Int) := by omega
  obtain ⟨j, hj⟩ : ∃ j : Nat, j = i3 + n := ⟨_, rfl⟩
  have HJ := Lib.hid hj
  rw [← hj] at hw2 hB hC hin
  clear hj t5
  go_region_held3 (fun W => W.cell? ⟨b, 0, none⟩ = some (.string S) ∧ W.cell? ⟨b, 1, none⟩ = some (.int .i64 i3)) (first | (exact ⟨e0, e1⟩) | go_keep) (fail)
  clear hw2
  go_wp2_with fail
  refine body_name (fun W9 hW9 => ?_)
  have z0 : W9.cell? ⟨w.heap.size, 0, none⟩ = some (.int .i64 1) := by rw [hW9]; go_simp
  have z1 : W9.cell? ⟨w.heap.size, 1, none⟩ = some (.slice a2 n2 c2) := by rw [hW9]; go_simp
  have z2 : W9.cell? ⟨w.heap.size, 2, none⟩ = some (.int .i64 mm.1.2) := by rw [hW9]; go_simp
  have z3 : W9.cell? ⟨w.heap.size, 3, none⟩ = some (.string (S.extract i3 j)) := by rw [hW9]; go_simp
  have z4 : W9.cell? ⟨w.heap.size, 4, none⟩ = some (.slice none 0 0) := by rw [hW9]; go_simp
  have z5 : W9.cell? ⟨w.heap.size, 5, none⟩ = some (.int .i64 0) := by rw [hW9]; go_simp
  have z6 : W9.cell? ⟨w.heap.size, 6, none⟩ = some (.int .i64 0) := by rw [hW9]; go_simp
  have hk9 : ∀ Z : Nat → Prop, ¬ Z b → ¬ Z w1.heap.size → ¬ Z w.heap.size → Kept Z w4 W9 := by intro Z zb zd zr; rw [hW9]; exact kept_trans (kept_set (p := ⟨w.heap.size, 6, none⟩) (kept_set (p := ⟨w.heap.size, 5, none⟩) (kept_set (p := ⟨w.heap.size, 4, none⟩) (kept_set (p := ⟨w.heap.size, 3, none⟩) (kept_set (p := ⟨w.heap.size, 2, none⟩) (kept_set (p := ⟨w.heap.size, 1, none⟩) (kept_set (p := ⟨w.heap.size, 0, none⟩) (kept_set (p := ⟨b, 1, none⟩) (kept_set (p := ⟨w1.heap.size, 3, none⟩) kept_refl zd _) zb _) zr _) zr _) zr _) zr _) zr _) zr _) zr _) (kept_ext (ext_drew (ext_refl _)))
  have htk : TkAt b S (nn.2.1.drop n, false) W9 := by rw [hW9]; refine ⟨i3 + n, ?_, ?_, ?_, HDR.out, HLN.out, ?_, ?_, c7⟩ <;> go_simp
  clear hW9
  have hch : ∀ Z : Nat → Prop, ¬ Z b → ¬ Z w1.heap.size → ¬ Z w.heap.size → Kept Z w2 W9 := fun Z zb zd zr => kept_trans (kept_set (p := ⟨w1.heap.size, 2, none⟩) (kept_set (p := ⟨w1.heap.size, 1, none⟩) kept_refl zd _) zd _) (kept_trans (HK3.out.less (fun k hk e => zb (e ▸ hk))) (kept_trans (kept_ext HX4.out) (hk9 Z zb zd zr)))
  refine bodyPost_ret (v := .agg #[.int .i64 1, .slice a2 n2 c2, .int .i64 mm.1.2, .string (S.extract i3 j), .slice none 0 0, .int .i64 0, .int .i64 0]) (by simp [results, Try.results37, go_sem, z0, z1, z2, z3, z4, z5, z6]) rfl ?_
  rw [HP.out]
  have h00 : I64 0 := ⟨by decide, by decide⟩
  refine ⟨[.int .i64 1, .slice a2 n2 c2, .int .i64 mm.1.2, .string (S.extract i3 j), .slice none 0 0, .int .i64 0, .int .i64 0], rfl, ⟨_, _, _, rfl, HIK.out, RSl.more gStp (fun k hk _ => by have hk' : w1.heap.size < k := hk; show w.heap.size ≤ k; omega) (HM2.out.keep gStp (hch (fun k => w1.heap.size < k) (by omega) (by omega) (by omega)).keeps), HI2.out, by rw [HJ.out]; exact HTX.out, RSl.nil_ (Nat.zero_le _), h00, h00⟩, htk, ?_⟩
  exact kept_lt (kept_trans (HK1.out.less (fun k hk => hk.2)) (kept_trans (HK2.out.less (fun k hk => hk.2)) (hch (fun k => k < w.heap.size ∧ k ≠ b) (fun h => h.2 rfl) (fun h => by have := h.1; omega) (fun h => by have := h.1; omega))))
end Go.Proofs.Ytiladkinndgeaaa
/- A note, read. -/
namespace Go.Proofs.Ytiladkinndgeaaa
open Go Go.RowKit Go.BigFrame Cp

def IsDec (s : Tx) (w : World) (e : Ending) (w' : World) : Prop := ∃ cs, e = .returned (.tuple #[.agg (cs : List Value).toArray, .int .i64 (decE s)]) ∧ RNo (fun k => w.heap.size ≤ k) w' cs (decV s) ∧ Ext w w'
theorem rno_none {F : Nat → Prop} {w : World} : RNo F w [.int .i64 0, .int .i64 0, .slice none 0 0, .slice none 0 0] noNote := ⟨_, _, rfl, ⟨by decide, by decide⟩, ⟨by decide, by decide⟩, RSl.nil_ (Nat.zero_le _), RSl.nil_ (Nat.zero_le _)⟩
theorem dec_bad {s : Tx} (h : (noteP s).2.2 = true ∨ (noteP s).2.1 ≠ []) : decE s = 1 ∧ decV s = noNote := by
  have e : decE s = 1 := by unfold decE; rw [if_pos h]
  exact ⟨e, decV_err (by rw [e]; decide)⟩
theorem dec_ok {s : Tx} (h : (noteP s).2.2 = false) (k : (noteP s).2.1 = []) : decE s = checkN (noteP s).1 ∧ (checkN (noteP s).1 = 0 → decV s = (noteP s).1) := by
  have e : decE s = checkN (noteP s).1 := by unfold decE; rw [if_neg (fun h' => h'.elim (fun h' => by rw [h] at h'; cases h') (fun h' => h' k))]
  exact ⟨e, fun h0 => by unfold decV; rw [if_pos (e.trans h0)]⟩
theorem noteP_is {s : Tx} {a b : Int × PS} {c : List Int × PS} {k : Int × PS} {n : Nat} {d : List De × PS} (ha : a = numP 1 (s, false)) (hb : b = numP 2 a.2) (hc : c = timesP (numP 2) 5 b.2) (hk : k = numP 1 c.2) (hn : k.1 = (n : Int)) (hd : d = timesP deedP n k.2) : noteP s = (⟨a.1, b.1, c.1, d.1⟩, d.2) := by
  subst ha hb hc hk hd
  unfold noteP noteP'
  simp only
  rw [hn, Int.toNat_natCast]
theorem kept_extN {w W1 wc : World} {N b : Nat} (hx : Ext w W1) (hk : Kept (fun k => k < N ∧ k ≠ b) W1 wc) (hN : w.heap.size ≤ N) (hb : w.heap.size ≤ b) : Ext w wc := hk.toExt hx (fun j hj => ⟨by omega, by omega⟩)
theorem ninv_kept {w0 W W' : World} {N b p q : Nat} {st nu : Int} {l : List Int} {r r' : PS} (h : NInv w0 N b p q st nu l r W) (hk : Kept (But b) W W') (hr : RdAt b r' W') : NInv w0 N b p q st nu l r' W' := by
  have hp := World.block_lt_of_cell? _ _ h.pt
  have hq := World.block_lt_of_cell? _ _ h.c0
  obtain ⟨lt1, lt2, lt3⟩ := h.lt
  have hpb : p ≠ b := by omega
  have hqb : q ≠ b := by omega
  obtain ⟨u, h1, h2⟩ := h.ow
  exact ⟨hr, (hk.cell hpb hp 0).trans h.pt, (hk.cell hqb hq 0).trans h.c0, (hk.cell hqb hq 1).trans h.c1, (hk.cell hqb hq 3).trans h.c3, ⟨(hk.frz hqb hq 2).trans h.fz.1, (hk.frz hqb hq 3).trans h.fz.2⟩, ⟨u, (hk.cell hqb hq 2).trans h1, osl_keptI h2 hk (by omega)⟩, kept_trans h.kp (hk.less fun k hk => hk.2), h.lt⟩
theorem dinv_of {w0 W : World} {N b p q : Nat} {st nu : Int} {l : List Int} {r : PS} (h : NInv w0 N b p q st nu l r W) : DInv w0 N b p q st nu l [] r W := by
  obtain ⟨u, h1, h2⟩ := h.ow
  exact ⟨h.rd, h.pt, h.c0, h.c1, h.fz.2, ⟨u, _, h1, h.c3, RSl.more gInt (fun k hk _ => ⟨hk, fun e => by simp [Value.ownBlock] at e⟩) (osl_ints h2), osl_nil⟩, h.kp, h.lt⟩
set_option maxRecDepth 100000 in
set_option maxHeartbeats 4000000 in
theorem decode_any {w : World} {v : Value} {s : Tx} (h : RTx v s) :
    Calls Try.prog 8 #[v] w (IsDec s w) := by
  obtain ⟨rfl, hsl⟩ := h
  obtain ⟨xa, ha⟩ : ∃ x, x = numP 1 (s, false) := ⟨_, rfl⟩
  obtain ⟨xb, hb⟩ : ∃ x, x = numP 2 xa.2 := ⟨_, rfl⟩
  obtain ⟨xc, hc⟩ : ∃ x, x = timesP (numP 2) 5 xb.2 := ⟨_, rfl⟩
  obtain ⟨xk, hk⟩ : ∃ x, x = numP 1 xc.2 := ⟨_, rfl⟩
  obtain ⟨n, hn, hn5⟩ := num1_nat xc.2
  rw [← hk] at hn
  obtain ⟨xd, hd⟩ : ∃ x, x = timesP deedP n xk.2 := ⟨_, rfl⟩
  have HNP := Lib.hid (noteP_is ha hb hc hk hn hd)
  have HIA := Lib.hid (show I64 xa.1 from ha ▸ num1_i64 _)
  have HIB := Lib.hid (show I64 xb.1 from hb ▸ num2_i64 _)
  have HN1 := Lib.hid (fun (b : Nat) (W : World) (h : RdAt b (s, false) W) => (ha ▸ num1_any h : Calls _ _ _ _ (IsNum b xa W)))
  have HN2 := Lib.hid (fun (b : Nat) (W : World) (h : RdAt b xa.2 W) => (hb ▸ num2_any h : Calls _ _ _ _ (IsNum b xb W)))
  have HN3 := Lib.hid (fun (b : Nat) (W : World) (h : RdAt b xc.2 W) => (num1_any h).mono (R' := fun e w' => e = .returned (.int .i64 (n : Int)) ∧ RdAt b xk.2 w' ∧ Kept (But b) W w') (fun e w' ⟨h1, h2, h3⟩ => ⟨by rw [h1, ← hk, hn], hk ▸ h2, h3⟩))
  have HT1 := Lib.hid (fun (w0 : World) (N b p q : Nat) (W : World) (h : NInv w0 N b p q xa.1 xb.1 [] xb.2 W) => (hc ▸ timesNe_any (f := numP 2) (Inv := NInv w0 N b p q xa.1 xb.1) (lim := 5) (n := 5) (fun l r W h => h.rd) (fun l r W W' h hx => ninv_ext l r W W' h hx) (fun l r W hl hr h => dec1_any (by omega) h) (by omega) (by omega) h : Calls Try.prog 26 #[.pointer (some ⟨b, 0, none⟩), .int .i64 5, .func (.func 27) #[] #[.pointer (some ⟨p, 0, none⟩), .pointer (some ⟨q, 0, none⟩)]] W fun e w' => e = .returned (.tuple #[]) ∧ NInv w0 N b p q xa.1 xb.1 xc.1 xc.2 w'))
  have HT2 := Lib.hid (fun (w0 : World) (N b p q : Nat) (W : World) (h : DInv w0 N b p q xa.1 xb.1 xc.1 [] xk.2 W) => (hd ▸ timesDe_any (f := deedP) (Inv := DInv w0 N b p q xa.1 xb.1 xc.1) (lim := 255) (n := n) (fun l r W h => h.rd) (fun l r W W' h hx => dinv_ext l r W W' h hx) (fun l r W hl hr h => dec2_any (by omega) h) hn5 (by omega) h : Calls Try.prog 26 #[.pointer (some ⟨b, 0, none⟩), .int .i64 n, .func (.func 28) #[] #[.pointer (some ⟨p, 0, none⟩), .pointer (some ⟨q, 0, none⟩)]] W fun e w' => e = .returned (.tuple #[]) ∧ DInv w0 N b p q xa.1 xb.1 xc.1 xd.1 xd.2 w'))
  have HSL := Lib.hid hsl
  clear ha hb hc hk hn hd hn5 hsl
  go_enter Try.func8, Try.ntmps8
  go_upto_region 2 with fail
  refine wp_name (fun W1 eW1 => ?_)
  have p1 : W1.cell? ⟨w.heap.size + 1 + 1, 0, none⟩ = some (.pointer (some ⟨w.heap.size + 1, 0, none⟩)) := by rw [eW1]; go_simp
  have r0 : W1.cell? ⟨w.heap.size, 0, none⟩ = some (.int .i64 0) := by rw [eW1]; go_simp
  have f0 : W1.frozen? ⟨w.heap.size, 0, none⟩ = false := by rw [eW1]; go_simp
  have r1 : W1.cell? ⟨w.heap.size, 1, none⟩ = some (.int .i64 0) := by rw [eW1]; go_simp
  have f1 : W1.frozen? ⟨w.heap.size, 1, none⟩ = false := by rw [eW1]; go_simp
  have r2 : W1.cell? ⟨w.heap.size, 2, none⟩ = some (.slice none 0 0) := by rw [eW1]; go_simp
  have f2 : W1.frozen? ⟨w.heap.size, 2, none⟩ = false := by rw [eW1]; go_simp
  have r3 : W1.cell? ⟨w.heap.size, 3, none⟩ = some (.slice none 0 0) := by rw [eW1]; go_simp
  have f3 : W1.frozen? ⟨w.heap.size, 3, none⟩ = false := by rw [eW1]; go_simp
  have HR1 := Lib.hid (show RdAt (w.heap.size + 1) (s, false) W1 by rw [eW1]; exact ⟨⟨⟨s.toArray⟩, by go_simp, rfl⟩, by go_simp, by go_simp, by go_simp, HSL.out⟩)
  have HX1 := Lib.hid (show Ext w W1 by rw [eW1]; exact extA)
  have hs1 : W1.heap.size = w.heap.size + 1 + 1 + 1 := by rw [eW1]; simp
  clear eW1
  generalize hpe : w.heap.size + 1 + 1 = p at *
  generalize hbe : w.heap.size + 1 = b at *
  have hpb : p ≠ b := by omega
  have hrb : w.heap.size ≠ b := by omega
  have hs1' : p < W1.heap.size := by omega
  go_upto_region 4 with (first | (go_at_call 25; ((with_reducible refine (HN1.out _ _ (rdAt_ext HR1.out extA)).mono ?_); rintro e w2 ⟨rfl, hr2, hk2⟩; have HR2 := Lib.hid hr2; have HK2 := Lib.hid (show Kept (But (b)) W1 w2 from kept_trans (kept_ext extA) hk2); have p2 := (HK2.out.cell hpb (by omega) 0).trans p1; have hs2 := HK2.out.size; have hp2 : p < w2.heap.size := World.block_lt_of_cell? _ _ p2; have hr2' : w.heap.size < w2.heap.size := (by omega); have hrq : ¬ w.heap.size = w2.heap.size := (by omega); have hq2 : w2.heap.size ≠ b := (by omega); have hq3 : ¬ p = w2.heap.size := (by omega); clear hr2 hk2 HN1)) | (go_at_call 25; go_must ((with_reducible refine (HN2.out _ _ (rdAt_ext HR2.out extA)).mono ?_); rintro e w3 ⟨rfl, hr3, hk3⟩; have HR3 := Lib.hid hr3; have HK3 := Lib.hid (show Kept (But (b)) W1 w3 from kept_trans HK2.out (kept_trans (kept_ext extA) hk3)); have p3 := (HK3.out.cell hpb (by omega) 0).trans p1; have q0 := (hk3.cell (show w2.heap.size ≠ b by omega) (by first | omega | (simp <;> omega)) 0).trans (show _ = some (.int .i64 xa.1) by first | (with_reducible assumption) | go_simp); have q1 := (hk3.cell (show w2.heap.size ≠ b by omega) (by first | omega | (simp <;> omega)) 1).trans (show _ = some (.int .i64 0) by first | (with_reducible assumption) | go_simp); have q2 := (hk3.cell (show w2.heap.size ≠ b by omega) (by first | omega | (simp <;> omega)) 2).trans (show _ = some (.slice none 0 0) by first | (with_reducible assumption) | go_simp); have q3 := (hk3.cell (show w2.heap.size ≠ b by omega) (by first | omega | (simp <;> omega)) 3).trans (show _ = some (.slice none 0 0) by first | (with_reducible assumption) | go_simp); have g1 := (hk3.frz (show w2.heap.size ≠ b by omega) (by first | omega | (simp <;> omega)) 1).trans (show _ = false by first | (with_reducible assumption) | go_simp); have g2 := (hk3.frz (show w2.heap.size ≠ b by omega) (by first | omega | (simp <;> omega)) 2).trans (show _ = false by first | (with_reducible assumption) | go_simp); have g3 := (hk3.frz (show w2.heap.size ≠ b by omega) (by first | omega | (simp <;> omega)) 3).trans (show _ = false by first | (with_reducible assumption) | go_simp); have hs3 := HK3.out.size; have hqn : ¬ (w2.heap.size < W1.heap.size ∧ w2.heap.size ≠ b) := (by omega); have hw3 : w2.heap.size < w3.heap.size := World.block_lt_of_cell? _ _ q0; clear hr3 hk3 HN2)))
  refine wp_name (fun W3 eW3 => ?_)
  have HV3 := Lib.hid (show NInv W1 W1.heap.size b p w2.heap.size xa.1 xb.1 [] xb.2 W3 by
    rw [eW3]
    refine ⟨rdAt_keptB HR3.out (kept_set (p := ⟨w2.heap.size, 1, none⟩) kept_refl hq2 _), ?_, ?_, ?_, ?_, ⟨?_, ?_⟩, ⟨.slice none 0 0, ?_, osl_nil⟩, kept_set (p := ⟨w2.heap.size, 1, none⟩) (HK3.out.less (fun k hk => hk.2)) hqn _, by omega, by omega, by omega⟩ <;> go_simp)
  clear eW3
  have pt3 := HV3.out.pt
  have hpt3 : p < W3.heap.size := World.block_lt_of_cell? _ _ pt3
  go_upto_region 5 with (first | (go_at_call 26; go_must ((with_reducible refine (HT1.out W1 W1.heap.size b p w2.heap.size _ (ninv_ext _ _ _ _ HV3.out extA)).mono ?_); rintro e w4 ⟨rfl, hv4⟩; skip)))
  refine wp_name (fun W4 eW4 => ?_)
  have HV4 := Lib.hid (show NInv W1 W1.heap.size b p w2.heap.size xa.1 xb.1 xc.1 xc.2 W4 by rw [eW4]; exact ninv_ext _ _ _ _ hv4 extA)
  clear eW4 hv4 HV3 HR3 HK3 HR2 HK2 HT1 HR1 p1 p2 p3 q0 q1 q2 q3 g1 g2 g3 hqn hs3 hw3
  generalize w2.heap.size = q at *
  have p4 := HV4.out.pt
  have hp4 : p < W4.heap.size := World.block_lt_of_cell? _ _ p4
  go_cut [] from 24 (fun wx => Hid (DInv W1 W1.heap.size b p q xa.1 xb.1 xc.1 xd.1 xd.2 wx))
  case first =>
    clear r0 r1 r2 r3 f0 f1 f2 f3 HNP
    go_region_held3 (fun W => W.cell? ⟨p, 0, none⟩ = some (.pointer (some ⟨b, 0, none⟩)))
      (first | (exact hv6.pt) | (exact HD5.out.pt) | (with_reducible assumption) | go_keep) (first | (go_at_call 25; go_must ((with_reducible refine (HN3.out _ _ (rdAt_ext HV4.out.rd extA)).mono ?_); rintro e w5 ⟨rfl, hr5, hk5⟩; have HD5 := Lib.hid (dinv_of (ninv_kept HV4.out (kept_trans (kept_ext extA) hk5) hr5)); clear hr5 hk5)) | (go_at_call 26; go_must ((with_reducible refine (HT2.out _ _ _ _ _ _ (dinv_ext _ _ _ _ HD5.out extA)).mono ?_); rintro e w6 ⟨rfl, hv6⟩; skip)))
    all_goals (go_wp2_with fail; go_meet)
    all_goals exact Lib.hid hv6
  case rest =>
    have HV := hcut
    clear hcut HT2 HN3 HV4 p4 hp4
    obtain ⟨v1, v2, v3, v4, v5, ⟨vn, u, v6, v7, v8, v9⟩, v10, v11, v12, v13⟩ := HV.out
    obtain ⟨⟨s5, b0, b1⟩, b2, _, _, _⟩ := v1
    have hb1 : b < wc.heap.size := World.block_lt_of_cell? _ _ b2
    have hq1 : q < wc.heap.size := World.block_lt_of_cell? _ _ v3
    have hr1 : w.heap.size < wc.heap.size := by omega
    have HXW := Lib.hid (show Ext w wc from kept_extN HX1.out v10 (by omega) (by omega))
    have x0 := (v10.cell (show w.heap.size < W1.heap.size ∧ w.heap.size ≠ b from ⟨by omega, hrb⟩) (by omega) 0).trans r0
    have y0 := (v10.frz (show w.heap.size < W1.heap.size ∧ w.heap.size ≠ b from ⟨by omega, hrb⟩) (by omega) 0).trans f0
    have x1 := (v10.cell (show w.heap.size < W1.heap.size ∧ w.heap.size ≠ b from ⟨by omega, hrb⟩) (by omega) 1).trans r1
    have y1 := (v10.frz (show w.heap.size < W1.heap.size ∧ w.heap.size ≠ b from ⟨by omega, hrb⟩) (by omega) 1).trans f1
    have x2 := (v10.cell (show w.heap.size < W1.heap.size ∧ w.heap.size ≠ b from ⟨by omega, hrb⟩) (by omega) 2).trans r2
    have y2 := (v10.frz (show w.heap.size < W1.heap.size ∧ w.heap.size ≠ b from ⟨by omega, hrb⟩) (by omega) 2).trans f2
    have x3 := (v10.cell (show w.heap.size < W1.heap.size ∧ w.heap.size ≠ b from ⟨by omega, hrb⟩) (by omega) 3).trans r3
    have y3 := (v10.frz (show w.heap.size < W1.heap.size ∧ w.heap.size ≠ b from ⟨by omega, hrb⟩) (by omega) 3).trans f3
    have HRN := Lib.hid (show RNo (fun k => q < k) wc [.int .i64 xa.1, .int .i64 xb.1, vn, u] ⟨xa.1, xb.1, xc.1, xd.1⟩ from ⟨_, _, rfl, HIA.out, HIB.out, RSl.more gInt (fun k hk _ => hk.1) v8, (osl_rsl gDe v9 (fun k hk _ => hk) (fun k hk => hk))⟩)
    obtain ⟨a4, n4, c4, rfl⟩ := v8.slice
    obtain ⟨a5, n5, c5, rfl⟩ := osl_slice v9
    clear r0 r1 r2 r3 f0 f1 f2 f3 v8 v9 v10 HX1 v5
    have hrbn : ¬ w.heap.size = b := hrb
    cases hsh : xd.2.2 with
    | true =>
      obtain ⟨hE, hV⟩ := dec_bad (s := s) (.inl (by rw [HNP.out]; exact hsh))
      have HE := Lib.hid hE
      have HVV := Lib.hid hV
      rw [hsh] at b2
      clear hE hV hsh
      go_wp2_with fail
      refine body_name (fun W9 hW9 => ?_)
      have hxw := HXW.out
      have z0 : W9.cell? ⟨w.heap.size, 0, none⟩ = some (.int .i64 0) := by rw [hW9]; go_simp
      have z1 : W9.cell? ⟨w.heap.size, 1, none⟩ = some (.int .i64 0) := by rw [hW9]; go_simp
      have z2 : W9.cell? ⟨w.heap.size, 2, none⟩ = some (.slice none 0 0) := by rw [hW9]; go_simp
      have z3 : W9.cell? ⟨w.heap.size, 3, none⟩ = some (.slice none 0 0) := by rw [hW9]; go_simp
      have HX9 : Ext w W9 := by rw [hW9]; exact extA
      clear hW9
      refine bodyPost_ret (v := .tuple #[.agg #[.int .i64 0, .int .i64 0, .slice none 0 0, .slice none 0 0], .int .i64 1]) (by simp [results, Try.results8, go_sem, z0, z1, z2, z3]) rfl ?_
      exact ⟨_, by rw [HE.out], by rw [HVV.out]; exact rno_none, HX9⟩
    | false =>
      rw [hsh] at b2
      by_cases hem : xd.2.1 = []
      · obtain ⟨hE, hV⟩ := dec_ok (s := s) (by rw [HNP.out]; exact hsh) (by rw [HNP.out]; exact hem)
        rw [HNP.out] at hE hV
        obtain rfl : s5 = ⟨#[]⟩ := by_eq (b1.trans hem)
        have HE := Lib.hid hE
        have HVV := Lib.hid hV
        clear hE hV hsh hem b1 HNP
        have HCN := Lib.hid (checkNoteP_any HRN.out)
        by_cases hck : checkN ⟨xa.1, xb.1, xc.1, xd.1⟩ = 0
        · have HVO := Lib.hid (HVV.out hck)
          rw [hck] at HCN HE
          clear hck
          go_wp2_with (first | (go_at_call 13; go_must ((with_reducible refine (HCN.out).mono ?_); rintro e w7 ⟨rfl, hx7⟩; have HX7 := Lib.hid (show Ext wc w7 from hx7); have hz7 := hx7.size; have u0 := (hx7.cells _ 0 hr1).trans x0; have u1 := (hx7.cells _ 1 hr1).trans x1; have u2 := (hx7.cells _ 2 hr1).trans x2; have u3 := (hx7.cells _ 3 hr1).trans x3; have t0' := (hx7.frz _ 0 hr1).trans y0; have t1' := (hx7.frz _ 1 hr1).trans y1; have t2' := (hx7.frz _ 2 hr1).trans y2; have t3' := (hx7.frz _ 3 hr1).trans y3; have s0' := (hx7.cells _ 0 hq1).trans v3; have s1' := (hx7.cells _ 1 hq1).trans v4; have s2' := (hx7.cells _ 2 hq1).trans v6; have s3' := (hx7.cells _ 3 hq1).trans v7; have hr7 : w.heap.size < w7.heap.size := (by omega); have hq7 : q < w7.heap.size := (by omega))))
          refine body_name (fun W9 hW9 => ?_)
          have hxw := ext_trans HXW.out HX7.out
          have z0 : W9.cell? ⟨w.heap.size, 0, none⟩ = some (.int .i64 xa.1) := by rw [hW9]; go_simp
          have z1 : W9.cell? ⟨w.heap.size, 1, none⟩ = some (.int .i64 xb.1) := by rw [hW9]; go_simp
          have z2 : W9.cell? ⟨w.heap.size, 2, none⟩ = some (.slice a4 n4 c4) := by rw [hW9]; go_simp
          have z3 : W9.cell? ⟨w.heap.size, 3, none⟩ = some (.slice a5 n5 c5) := by rw [hW9]; go_simp
          have HX9 : Ext w W9 := by rw [hW9]; exact extA
          have HRN9 := Lib.hid (gNo.more (G := fun k => w.heap.size ≤ k) (fun k hk _ => by have hk' : q < k := hk; omega) (gNo.keep (show Keeps (fun k => q < k) wc W9 by rw [hW9]; refine keeps_set (keeps_set (keeps_set (keeps_set (.of_below HX7.out) ?_ _) ?_ _) ?_ _) ?_ _ <;> (intro _ hk; have hk' : q < w.heap.size := hk; omega)) HRN.out))
          clear hW9
          refine bodyPost_ret (v := .tuple #[.agg #[.int .i64 xa.1, .int .i64 xb.1, .slice a4 n4 c4, .slice a5 n5 c5], .int .i64 0]) (by simp [results, Try.results8, go_sem, z0, z1, z2, z3]) rfl ?_
          exact ⟨_, by rw [HE.out], by rw [HVO.out]; exact HRN9.out, HX9⟩
        · have t1 : (checkN ⟨xa.1, xb.1, xc.1, xd.1⟩ != 0) = true := by simpa using hck
          have HVO := Lib.hid (decV_err (s := s) (by rw [HE.out]; exact hck))
          clear hck HVV
          generalize checkN ⟨xa.1, xb.1, xc.1, xd.1⟩ = er at *
          go_wp2_with (first | (go_at_call 13; go_must ((with_reducible refine (HCN.out).mono ?_); rintro e w7 ⟨rfl, hx7⟩; have HX7 := Lib.hid (show Ext wc w7 from hx7); have hz7 := hx7.size; have u0 := (hx7.cells _ 0 hr1).trans x0; have u1 := (hx7.cells _ 1 hr1).trans x1; have u2 := (hx7.cells _ 2 hr1).trans x2; have u3 := (hx7.cells _ 3 hr1).trans x3; have t0' := (hx7.frz _ 0 hr1).trans y0; have t1' := (hx7.frz _ 1 hr1).trans y1; have t2' := (hx7.frz _ 2 hr1).trans y2; have t3' := (hx7.frz _ 3 hr1).trans y3; have s0' := (hx7.cells _ 0 hq1).trans v3; have s1' := (hx7.cells _ 1 hq1).trans v4; have s2' := (hx7.cells _ 2 hq1).trans v6; have s3' := (hx7.cells _ 3 hq1).trans v7; have hr7 : w.heap.size < w7.heap.size := (by omega); have hq7 : q < w7.heap.size := (by omega))))
          refine body_name (fun W9 hW9 => ?_)
          have hxw := ext_trans HXW.out HX7.out
          have z0 : W9.cell? ⟨w.heap.size, 0, none⟩ = some (.int .i64 0) := by rw [hW9]; go_simp
          have z1 : W9.cell? ⟨w.heap.size, 1, none⟩ = some (.int .i64 0) := by rw [hW9]; go_simp
          have z2 : W9.cell? ⟨w.heap.size, 2, none⟩ = some (.slice none 0 0) := by rw [hW9]; go_simp
          have z3 : W9.cell? ⟨w.heap.size, 3, none⟩ = some (.slice none 0 0) := by rw [hW9]; go_simp
          have HX9 : Ext w W9 := by rw [hW9]; exact extA
          clear hW9
          refine bodyPost_ret (v := .tuple #[.agg #[.int .i64 0, .int .i64 0, .slice none 0 0, .slice none 0 0], .int .i64 er]) (by simp [results, Try.results8, go_sem, z0, z1, z2, z3]) rfl ?_
          exact ⟨_, by rw [HE.out], by rw [HVO.out]; exact rno_none, HX9⟩
      · obtain ⟨hE, hV⟩ := dec_bad (s := s) (.inr (by rw [HNP.out]; exact hem))
        have HE := Lib.hid hE
        have HVV := Lib.hid hV
        have t5 : s5.toList.isEmpty = false := by
          rw [ByteArray.toList_eq, b1]
          cases hl : xd.2.1 with
          | nil => exact absurd hl hem
          | cons _ _ => rfl
        clear hE hV hsh hem
        go_wp2_with fail
        refine body_name (fun W9 hW9 => ?_)
        have hxw := HXW.out
        have z0 : W9.cell? ⟨w.heap.size, 0, none⟩ = some (.int .i64 0) := by rw [hW9]; go_simp
        have z1 : W9.cell? ⟨w.heap.size, 1, none⟩ = some (.int .i64 0) := by rw [hW9]; go_simp
        have z2 : W9.cell? ⟨w.heap.size, 2, none⟩ = some (.slice none 0 0) := by rw [hW9]; go_simp
        have z3 : W9.cell? ⟨w.heap.size, 3, none⟩ = some (.slice none 0 0) := by rw [hW9]; go_simp
        have HX9 : Ext w W9 := by rw [hW9]; exact extA
        clear hW9
        refine bodyPost_ret (v := .tuple #[.agg #[.int .i64 0, .int .i64 0, .slice none 0 0, .slice none 0 0], .int .i64 1]) (by simp [results, Try.results8, go_sem, z0, z1, z2, z3]) rfl ?_
        exact ⟨_, by rw [HE.out], by rw [HVV.out]; exact rno_none, HX9⟩
end Go.Proofs.Ytiladkinndgeaaa
