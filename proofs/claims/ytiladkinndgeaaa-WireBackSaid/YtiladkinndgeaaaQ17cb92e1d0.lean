/- A note, read by the document. -/
import Derived.Test.YtiladkinndgeaaaQbf3dc7ce0c
import Derived.Test.YtiladkinndgeaaaQ0fa89b068c
import Derived.Test.YtiladkinndgeaaaQef1a64ee27
import Derived.Deep.RegionLaw
set_option linter.unusedVariables false
set_option linter.unusedSimpArgs false
namespace Go.Proofs.Ytiladkinndgeaaa
open Go Go.RowKit Go.BigFrame Cp

theorem tk_flag {b : Nat} {S : ByteArray} {r : PS} {w : World} (h : TkAt b S r w) : w.cell? ⟨b, 2, none⟩ = some (.bool r.2) := by obtain ⟨_, _, _, h, _⟩ := h; exact h
theorem manyR_zero {r : PS} : manyR 0 r = ([], r) := rfl
theorem manyR_succ {m : Nat} {r : PS} : manyR (m + 1) r = ((twoR r).1 :: (manyR m (twoR r).2).1, (manyR m (twoR r).2).2) := rfl
theorem noteR_is {s : Tx} {a b : Int × PS} {c : List Int × PS} {k : Int × PS} {n : Nat} {d : List De × PS} (ha : a = oneR (s, false)) (hb : b = twoR a.2) (hc : c = manyR 5 b.2) (hk : k = oneR c.2) (hn : k.1 = (n : Int)) (hd : d = timesP deedR n k.2) : noteR s = (⟨a.1, b.1, c.1, d.1⟩, d.2) := by
  subst ha hb hc hk hd
  unfold noteR noteR'
  simp only
  rw [hn, Int.toNat_natCast]
theorem decR_bad {s : Tx} (h : (noteR s).2.2 = true ∨ (noteR s).2.1 ≠ []) : decE s = 1 ∧ decV s = noNote := by
  have e : decE s = 1 := by rw [(dec_same s).1, if_pos h]
  exact ⟨e, decV_err (by rw [e]; decide)⟩
theorem decR_ok {s : Tx} (h : (noteR s).2.2 = false) (k : (noteR s).2.1 = []) : decE s = checkN (noteR s).1 ∧ (checkN (noteR s).1 = 0 → decV s = (noteR s).1) := by
  have e : decE s = checkN (noteR s).1 := by rw [(dec_same s).1, if_neg (fun h' => h'.elim (fun h' => by rw [h] at h'; cases h') (fun h' => h' k))]
  exact ⟨e, fun h0 => (dec_same s).2 (e.trans h0)⟩
set_option maxRecDepth 100000 in
set_option maxHeartbeats 4000000 in
theorem decodeOf_any {w : World} {v : Value} {s : Tx} (h : RTx v s) :
    Calls Try.prog 11 #[v] w (IsDec s w) := by
  obtain ⟨rfl, hsl⟩ := h
  obtain ⟨xa, ha⟩ : ∃ x, x = oneR (s, false) := ⟨_, rfl⟩
  obtain ⟨xb, hb⟩ : ∃ x, x = twoR xa.2 := ⟨_, rfl⟩
  obtain ⟨xc, hc⟩ : ∃ x, x = manyR 5 xb.2 := ⟨_, rfl⟩
  obtain ⟨xk, hk⟩ : ∃ x, x = oneR xc.2 := ⟨_, rfl⟩
  obtain ⟨n, hn, hn5⟩ := one_nat xc.2
  rw [← hk] at hn
  obtain ⟨xd, hd⟩ : ∃ x, x = timesP deedR n xk.2 := ⟨_, rfl⟩
  have HNP := Lib.hid (noteR_is ha hb hc hk hn hd)
  have HIA := Lib.hid (show I64 xa.1 from ha ▸ one_i64 _)
  have HIB := Lib.hid (show I64 xb.1 from hb ▸ two_i64 _)
  obtain ⟨S, hS⟩ : ∃ S : ByteArray, S = ⟨s.toArray⟩ := ⟨_, rfl⟩
  rw [← hS]
  have hSd : S.data.toList = s := by rw [hS]
  have hSs : S.size ≤ 140737488351232 := by rw [bsize hS]; exact hsl
  have HN1 := Lib.hid (fun (b : Nat) (W : World) (h : TkAt b S (s, false) W) => (ha ▸ one_any h : Calls _ _ _ _ (IsOne b S xa W)))
  have HN2 := Lib.hid (fun (b : Nat) (W : World) (h : TkAt b S xa.2 W) => (hb ▸ two_anyR h : Calls _ _ _ _ (IsOne b S xb W)))
  have HN3 := Lib.hid (fun (b : Nat) (W : World) (h : TkAt b S xc.2 W) => (one_any h).mono (R' := fun e w' => e = .returned (.int .i64 (n : Int)) ∧ TkAt b S xk.2 w' ∧ Kept (But b) W w') (fun e w' ⟨h1, h2, h3⟩ => ⟨by rw [h1, ← hk, hn], hk ▸ h2, h3⟩))
  have HSD := Lib.hid hSd
  have HXC := Lib.hid hc
  have HXD := Lib.hid hd
  have HN5 := Lib.hid hn5
  clear ha hb hc hk hn hd hsl hS hSd
  go_enter Try.func11, Try.ntmps11
  go_upto_region 3 with fail
  refine wp_name (fun W1 eW1 => ?_)
  have r0 : W1.cell? ⟨w.heap.size, 0, none⟩ = some (.int .i64 0) := by rw [eW1]; go_simp
  have f0 : W1.frozen? ⟨w.heap.size, 0, none⟩ = false := by rw [eW1]; go_simp
  have r1 : W1.cell? ⟨w.heap.size, 1, none⟩ = some (.int .i64 0) := by rw [eW1]; go_simp
  have f1 : W1.frozen? ⟨w.heap.size, 1, none⟩ = false := by rw [eW1]; go_simp
  have r2 : W1.cell? ⟨w.heap.size, 2, none⟩ = some (.slice none 0 0) := by rw [eW1]; go_simp
  have f2 : W1.frozen? ⟨w.heap.size, 2, none⟩ = false := by rw [eW1]; go_simp
  have r3 : W1.cell? ⟨w.heap.size, 3, none⟩ = some (.slice none 0 0) := by rw [eW1]; go_simp
  have f3 : W1.frozen? ⟨w.heap.size, 3, none⟩ = false := by rw [eW1]; go_simp
  have HT1 := Lib.hid (show TkAt (w.heap.size + 1) S (s, false) W1 by rw [eW1]; refine ⟨0, ?_, ?_, ?_, HSD.out, Nat.zero_le _, ?_, ?_, hSs⟩ <;> go_simp)
  have q0 : W1.cell? ⟨w.heap.size + 1 + 1, 0, none⟩ = some (.int .i64 0) := by rw [eW1]; go_simp
  have g0 : W1.frozen? ⟨w.heap.size + 1 + 1, 0, none⟩ = false := by rw [eW1]; go_simp
  have q1 : W1.cell? ⟨w.heap.size + 1 + 1, 1, none⟩ = some (.int .i64 0) := by rw [eW1]; go_simp
  have g1 : W1.frozen? ⟨w.heap.size + 1 + 1, 1, none⟩ = false := by rw [eW1]; go_simp
  have q2 : W1.cell? ⟨w.heap.size + 1 + 1, 2, none⟩ = some (.slice none 0 0) := by rw [eW1]; go_simp
  have g2 : W1.frozen? ⟨w.heap.size + 1 + 1, 2, none⟩ = false := by rw [eW1]; go_simp
  have q3 : W1.cell? ⟨w.heap.size + 1 + 1, 3, none⟩ = some (.slice none 0 0) := by rw [eW1]; go_simp
  have g3 : W1.frozen? ⟨w.heap.size + 1 + 1, 3, none⟩ = false := by rw [eW1]; go_simp
  have HX1 := Lib.hid (show Ext w W1 by rw [eW1]; exact extA)
  have hs1 : W1.heap.size = w.heap.size + 1 + 1 + 1 := by rw [eW1]; simp
  clear eW1
  generalize hqe : w.heap.size + 1 + 1 = q at *
  generalize hbe : w.heap.size + 1 = b at *
  have hrb : w.heap.size ≠ b := by omega
  have hqb : q ≠ b := by omega
  have hq1 : q < W1.heap.size := by omega
  go_wp2_with (first | (go_at_call 35; ((with_reducible refine (HN1.out _ _ HT1.out).mono ?_); rintro e w2 ⟨rfl, h2⟩; have hr2 := Lib.hid h2.1; have hk2 := Lib.hid h2.2; have hk2' := h2.2; have a0 := (hk2'.cell hqb (by first | omega | (simp <;> omega)) 0).trans (show _ = some (.int .i64 0) by first | (with_reducible assumption) | go_simp); have ag0 := (hk2'.frz hqb (by first | omega | (simp <;> omega)) 0).trans (show _ = false by first | (with_reducible assumption) | go_simp); have a1 := (hk2'.cell hqb (by first | omega | (simp <;> omega)) 1).trans (show _ = some (.int .i64 0) by first | (with_reducible assumption) | go_simp); have ag1 := (hk2'.frz hqb (by first | omega | (simp <;> omega)) 1).trans (show _ = false by first | (with_reducible assumption) | go_simp); have a2 := (hk2'.cell hqb (by first | omega | (simp <;> omega)) 2).trans (show _ = some (.slice none 0 0) by first | (with_reducible assumption) | go_simp); have ag2 := (hk2'.frz hqb (by first | omega | (simp <;> omega)) 2).trans (show _ = false by first | (with_reducible assumption) | go_simp); have a3 := (hk2'.cell hqb (by first | omega | (simp <;> omega)) 3).trans (show _ = some (.slice none 0 0) by first | (with_reducible assumption) | go_simp); have ag3 := (hk2'.frz hqb (by first | omega | (simp <;> omega)) 3).trans (show _ = false by first | (with_reducible assumption) | go_simp); have hq2 : q < w2.heap.size := World.block_lt_of_cell? _ _ a0; clear h2 hk2' HN1)) | (go_at_call 36; go_must ((with_reducible refine (HN2.out _ _ (tkAt_keptB hr2.out (kept_set (p := ⟨q, 0, none⟩) kept_refl hqb _))).mono ?_); rintro e w3 ⟨rfl, h3⟩; have hr3 := Lib.hid h3.1; have hk3' := h3.2; have hk3 := Lib.hid (show Kept (But b) w2 w3 → True from fun _ => trivial); have hk3s := Lib.hid hk3'; have c0 := (hk3'.cell hqb (by first | omega | (simp <;> omega)) 0).trans (show _ = some (.int .i64 xa.1) by first | (with_reducible assumption) | go_simp); have cg0 := (hk3'.frz hqb (by first | omega | (simp <;> omega)) 0).trans (show _ = false by first | (with_reducible assumption) | go_simp); have c1 := (hk3'.cell hqb (by first | omega | (simp <;> omega)) 1).trans (show _ = some (.int .i64 0) by first | (with_reducible assumption) | go_simp); have cg1 := (hk3'.frz hqb (by first | omega | (simp <;> omega)) 1).trans (show _ = false by first | (with_reducible assumption) | go_simp); have c2 := (hk3'.cell hqb (by first | omega | (simp <;> omega)) 2).trans (show _ = some (.slice none 0 0) by first | (with_reducible assumption) | go_simp); have cg2 := (hk3'.frz hqb (by first | omega | (simp <;> omega)) 2).trans (show _ = false by first | (with_reducible assumption) | go_simp); have c3 := (hk3'.cell hqb (by first | omega | (simp <;> omega)) 3).trans (show _ = some (.slice none 0 0) by first | (with_reducible assumption) | go_simp); have cg3 := (hk3'.frz hqb (by first | omega | (simp <;> omega)) 3).trans (show _ = false by first | (with_reducible assumption) | go_simp); have hq3 : q < w3.heap.size := World.block_lt_of_cell? _ _ c0; clear h3 hk3')))
  refine wp_name (fun W3 eW3 => ?_)
  have HT3 := Lib.hid (show NT W1 q b q S xa.1 xb.1 [] xb.2 W3 by
    rw [eW3]
    refine ⟨tkAt_keptB hr3.out (kept_set (p := ⟨q, 1, none⟩) kept_refl hqb _), ?_, ?_, ?_, ⟨?_, ?_⟩, ⟨.slice none 0 0, ?_, osl_nil⟩, kept_set (p := ⟨q, 1, none⟩) (kept_trans (hk2.out.less (fun k hk => hk.2)) (kept_trans (kept_set (p := ⟨q, 0, none⟩) kept_refl (fun h => Nat.lt_irrefl _ h.1) _) (hk3s.out.less (fun k hk => hk.2)))) (fun h => Nat.lt_irrefl _ h.1) _, by omega, Nat.le_refl _⟩ <;> go_simp)
  clear eW3 hr2 hr3 hk2 hk3 hk3s HT1 HN2 q0 g0 q1 g1 q2 g2 q3 g3 a0 a1 a2 a3 ag0 ag1 ag2 ag3 c0 c1 c2 c3 cg0 cg1 cg2 cg3 hq2 hq3 
  obtain ⟨i0, hi0, hz0, hz1', hz2⟩ := info_parts info_int
  have HJ := Lib.hid hi0
  have HZ0 := Lib.hid hz0
  have HZ1 := Lib.hid hz1'
  have HZ2 := Lib.hid hz2
  obtain ⟨j0, hi0', hz0', hz1'', hz2'⟩ := info_parts info_deG
  have DJ := Lib.hid hi0'
  have DZ0 := Lib.hid hz0'
  have DZ1 := Lib.hid hz1''
  have DZ2 := Lib.hid hz2'
  clear hi0 hz0 hz1' hz2 hi0' hz0' hz1'' hz2'
  go_loopw [6] (fun iv wr => ∃ (k m : Nat) (l : List Int) (r' : PS), k + m = 5 ∧ iv = .int .i64 k ∧ Hid (l.length = k) ∧ Hid (NT W1 q b q S xa.1 xb.1 l r' wr) ∧ Hid (l ++ (manyR m r').1 = xc.1 ∧ (manyR m r').2 = xc.2)) (fun iv _ => 5 - (intOf iv).toNat)
  case atStart => exact ⟨0, 5, [], xb.2, rfl, rfl, Lib.hid rfl, HT3, Lib.hid ⟨by rw [HXC.out]; rfl, by rw [HXC.out]⟩⟩
  case round =>
    obtain ⟨k, m, l, r', hkm, rfl, HL0, HI', HQ⟩ := hrel
    have hk5 : k ≤ 5 := by omega
    cases m with
    | succ m =>
      have HQ' := Lib.hid (show (l ++ [(twoR r').1]) ++ (manyR m (twoR r').2).1 = xc.1 ∧ (manyR m (twoR r').2).2 = xc.2 by
        have := HQ.out
        rw [manyR_succ] at this
        exact ⟨by rw [← this.1]; simp, this.2⟩)
      have HTW := Lib.hid (fun (W : World) (h : TkAt b S r' W) => two_anyR h)
      have HIX := Lib.hid (two_i64 r')
      have HLK := Lib.hid (show l.length ≤ 500 by have := HL0.out; omega)
      have HNX := Lib.hid (show k + 1 + m = 5 ∧ (l ++ [(twoR r').1]).length = k + 1 by refine ⟨by omega, by rw [List.length_append, HL0.out]; rfl⟩)
      obtain ⟨_, wc0, _, _, ⟨hf, _⟩, ⟨u, hu, ho⟩, _, _⟩ := HI'.out
      have HO := Lib.hid ho
      obtain ⟨a3, n3, c3, rfl⟩ := osl_slice ho
      obtain rfl := (osl_len ho).1
      have hqw : q < wr.heap.size := World.block_lt_of_cell? _ _ wc0
      have t1 : decide ((k : Int) < 5) = true := decide_eq_true (by omega)
      have t2 : decide (k < 5) = true := decide_eq_true (by omega)
      clear ho wc0 hkm HQ
      generalize twoR r' = x at *
      go_wp2_with fail
      go_region_law (first | (go_simp; go_at_call 36; ((with_reducible refine (HTW.out _ (tkAt_ext HI'.out.rd extA)).mono ?_); rintro e w6 ⟨rfl, h6⟩; have HT6 := Lib.hid (nt_kept HI'.out (kept_trans (kept_ext extA) h6.2) h6.1); have HK6 := Lib.hid (show Kept (But b) wr w6 from kept_trans (kept_ext extA) h6.2); clear h6; have q6 := (HK6.out.cell hqb hqw 2).trans hu; have f6 := (HK6.out.frz hqb hqw 2).trans hf; have HO6 := Lib.hid (osl_keptI HO.out HK6.out (show b < q + 1 by omega)); have hq6 : q < w6.heap.size := World.block_lt_of_cell? _ _ q6; have hqn : ¬ q = w6.heap.size := (by omega))) | (refine step_appAll gInt rfl (.tmp 21) (.tmp 23) 22 rfl (q + 1) 3 i0 _ 1 8 Try.underlying22 HJ.out HZ0.out HZ1.out HZ2.out rfl (by omega) (F := fun _ => True) (G := fun j => j = w6.heap.size) (.slice a3 l.length c3) l rfl (osl_ext gInt HO6.out extA) (.slice (some ⟨w6.heap.size, 0, none⟩) 1 1) [x.1] rfl (rd_one rfl (rangeAt1 (by first | (with_reducible assumption) | go_simp)) (show RInt _ _ [_] x.1 from ⟨rfl, HIX.out⟩) rfl (by first | omega | (simp <;> omega)) (Nat.le_refl _) (by unfold maxLen; omega)) one_int (fun j hj _ => ⟨trivial, fun e => by have := (osl_lt HO6.out j e.symm).2; omega⟩) (int_len HLK.out) (int_byt HLK.out) (by first | omega | (simp <;> omega)) ?_; intro v9 w9 hown9 hg9 hat9; obtain ⟨a9, n9, c9, rfl⟩ := osl_slice hown9; have HFIN := Lib.hid (nt_store HT6.out HO6.out hg9 extA hown9); obtain ⟨hc9, hf9⟩ := own_cell HO6.out q6 f6 hg9 extA; clear hg9 hat9 hown9))
      all_goals (go_wp2_with fail; go_roundw)
      all_goals first
        | (show _ < _; have := HNX.out.1; simp [intOf]; omega)
        | exact ⟨k + 1, m, l ++ [x.1], x.2, HNX.out.1, by go_num, Lib.hid HNX.out.2, HFIN, HQ'⟩
    | zero =>
      obtain ⟨e1, e2⟩ := HQ.out
      rw [manyR_zero, List.append_nil] at e1
      rw [manyR_zero] at e2
      have HT4 := Lib.hid (show NT W1 q b q S xa.1 xb.1 xc.1 xc.2 wr by rw [← e1, ← e2]; exact HI'.out)
      have t1 : decide ((k : Int) < 5) = false := decide_eq_false (by omega)
      have t2 : decide (k < 5) = false := decide_eq_false (by omega)
      clear e1 e2 HQ HI' HT3 HL0 hkm
      go_wp2_with (first | (go_at_call 35; go_must ((with_reducible refine (HN3.out _ _ HT4.out.rd).mono ?_); rintro e w7 ⟨rfl, h7⟩; have HT7 := Lib.hid (dt_of (nt_kept HT4.out h7.2 h7.1)); clear h7)))
      refine wp_name (fun W8 eW8 => ?_)
      have HT8 := Lib.hid (show DT W1 q b q S xa.1 xb.1 xc.1 [] xk.2 W8 by rw [eW8]; exact dt_ext HT7.out extA)
      clear eW8 HT7 HT4 HN3
      go_loopw [8] (fun iv wr => ∃ (k m : Nat) (l : List De) (r' : PS), k + m = n ∧ iv = .int .i64 k ∧ Hid (l.length = k) ∧ Hid (DT W1 q b q S xa.1 xb.1 xc.1 l r' wr) ∧ Hid (l ++ (timesP deedR m r').1 = xd.1 ∧ (timesP deedR m r').2 = xd.2)) (fun iv _ => n - (intOf iv).toNat)
      case atStart => exact ⟨0, n, [], xk.2, by omega, rfl, Lib.hid rfl, HT8, Lib.hid ⟨by rw [HXD.out]; rfl, by rw [HXD.out]⟩⟩
      case round =>
        obtain ⟨k, m, l, r', hkm, rfl, HL0, HI', HQ⟩ := hrel
        have hk255 : k ≤ 255 := by have := HN5.out; omega
        have hbad := tk_flag HI'.out.rd
        have hbw : b < wr.heap.size := World.block_lt_of_cell? _ _ hbad
        cases m with
        | zero =>
          obtain ⟨e1, e2⟩ := HQ.out
          rw [times_zero, List.append_nil] at e1
          rw [times_zero] at e2
          have HV := Lib.hid (show DT W1 q b q S xa.1 xb.1 xc.1 xd.1 xd.2 wr by rw [← e1, ← e2]; exact HI'.out)
          have t1 : decide ((k : Int) < (n : Int)) = false := decide_eq_false (by omega)
          have t2 : decide (k < n) = false := decide_eq_false (by omega)
          clear e1 e2 HQ HI' hbad HT8 HL0 hkm
          obtain ⟨⟨i, b0, b1, b2, b3, b4, _, _, _⟩, v3, v4, v5, ⟨vn, u, v6, v7, v8, v9⟩, v10, _, _⟩ := HV.out
          have hq1' : q < wr.heap.size := World.block_lt_of_cell? _ _ v3
          have hr1 : w.heap.size < wr.heap.size := by omega
          have hrq : w.heap.size < q ∧ w.heap.size ≠ b := ⟨by omega, hrb⟩
          have hrW : w.heap.size < W1.heap.size := by omega
          have HXW := Lib.hid (kept_extN HX1.out v10 (by omega) (by omega))
          have x0 := (v10.cell hrq hrW 0).trans r0
          have y0 := (v10.frz hrq hrW 0).trans f0
          have x1 := (v10.cell hrq hrW 1).trans r1
          have y1 := (v10.frz hrq hrW 1).trans f1
          have x2 := (v10.cell hrq hrW 2).trans r2
          have y2 := (v10.frz hrq hrW 2).trans f2
          have x3 := (v10.cell hrq hrW 3).trans r3
          have y3 := (v10.frz hrq hrW 3).trans f3
          have HRN := Lib.hid (show RNo (fun k => q < k) wr [.int .i64 xa.1, .int .i64 xb.1, vn, u] ⟨xa.1, xb.1, xc.1, xd.1⟩ from ⟨_, _, rfl, HIA.out, HIB.out, RSl.more gInt (fun k hk _ => hk.1) v8, (osl_rsl gDe v9 (fun k hk _ => hk) (fun k hk => hk))⟩)
          obtain ⟨a4, n4, c4, rfl⟩ := v8.slice
          obtain ⟨a5, n5, c5, rfl⟩ := osl_slice v9
          have hlen : xd.2.1.length = S.size - i := by rw [← b3, List.length_drop, Array.length_toList]; rfl
          have HLEN := Lib.hid hlen
          clear v8 v9 v10 v5 b3 hlen HV
          have hrbn : ¬ w.heap.size = b := hrb
          cases hsh : xd.2.2 with
          | true =>
            obtain ⟨hE, hV⟩ := decR_bad (s := s) (.inl (by rw [HNP.out]; exact hsh))
            have HE := Lib.hid hE
            have HVV := Lib.hid hV
            rw [hsh] at b2
            clear hE hV hsh
            go_wp2_with fail
            refine body_name (fun W9 hW9 => ?_)
            have hxw := HXW.out
            have z0 : W9.cell? ⟨w.heap.size, 0, none⟩ = some (.int .i64 0) := by rw [hW9]; go_simp
            have z1 : W9.cell? ⟨w.heap.size, 1, none⟩ = some (.int .i64 0) := by rw [hW9]; go_simp
            have z2 : W9.cell? ⟨w.heap.size, 2, none⟩ = some (.slice none 0 0) := by rw [hW9]; go_simp
            have z3 : W9.cell? ⟨w.heap.size, 3, none⟩ = some (.slice none 0 0) := by rw [hW9]; go_simp
            have HX9 : Ext w W9 := by rw [hW9]; exact extA
            clear hW9
            refine bodyPost_ret (v := .tuple #[.agg #[.int .i64 0, .int .i64 0, .slice none 0 0, .slice none 0 0], .int .i64 1]) (by simp [results, Try.results11, go_sem, z0, z1, z2, z3]) rfl ?_
            exact ⟨_, by rw [HE.out], by rw [HVV.out]; exact rno_none, HX9⟩
          | false =>
            rw [hsh] at b2
            by_cases hem : xd.2.1 = []
            · obtain ⟨hE, hV⟩ := decR_ok (s := s) (by rw [HNP.out]; exact hsh) (by rw [HNP.out]; exact hem)
              rw [HNP.out] at hE hV
              have HE := Lib.hid hE
              have HVV := Lib.hid hV
              have hi9 : i = S.size := by have h := HLEN.out; rw [hem] at h; simp at h; omega
              have t8 : decide ((i : Int) < (S.size : Int)) = false := decide_eq_false (by omega)
              have t9 : decide (i < S.size) = false := decide_eq_false (by omega)
              clear hE hV hsh hem hi9
              have HCN := Lib.hid (checkNote_any HRN.out)
              by_cases hck : checkN ⟨xa.1, xb.1, xc.1, xd.1⟩ = 0
              · have HVO := Lib.hid (HVV.out hck)
                rw [hck] at HCN HE
                clear hck
                go_wp2_with (first | (go_at_call 9; go_must ((with_reducible refine (HCN.out).mono ?_); rintro e w7 ⟨rfl, hx7⟩; have HX7 := Lib.hid (show Ext wr w7 from hx7); have hz7 := hx7.size; have u0 := (hx7.cells _ 0 hr1).trans x0; have u1 := (hx7.cells _ 1 hr1).trans x1; have u2 := (hx7.cells _ 2 hr1).trans x2; have u3 := (hx7.cells _ 3 hr1).trans x3; have t0' := (hx7.frz _ 0 hr1).trans y0; have t1' := (hx7.frz _ 1 hr1).trans y1; have t2' := (hx7.frz _ 2 hr1).trans y2; have t3' := (hx7.frz _ 3 hr1).trans y3; have s0' := (hx7.cells _ 0 hq1').trans v3; have s1' := (hx7.cells _ 1 hq1').trans v4; have s2' := (hx7.cells _ 2 hq1').trans v6; have s3' := (hx7.cells _ 3 hq1').trans v7; have hr7 : w.heap.size < w7.heap.size := (by omega); have hq7 : q < w7.heap.size := (by omega))))
                refine body_name (fun W9 hW9 => ?_)
                have hxw := ext_trans HXW.out HX7.out
                have z0 : W9.cell? ⟨w.heap.size, 0, none⟩ = some (.int .i64 xa.1) := by rw [hW9]; go_simp
                have z1 : W9.cell? ⟨w.heap.size, 1, none⟩ = some (.int .i64 xb.1) := by rw [hW9]; go_simp
                have z2 : W9.cell? ⟨w.heap.size, 2, none⟩ = some (.slice a4 n4 c4) := by rw [hW9]; go_simp
                have z3 : W9.cell? ⟨w.heap.size, 3, none⟩ = some (.slice a5 n5 c5) := by rw [hW9]; go_simp
                have HX9 : Ext w W9 := by rw [hW9]; exact extA
                have HRN9 := Lib.hid (gNo.more (G := fun k => w.heap.size ≤ k) (fun k hk _ => by have hk' : q < k := hk; omega) (gNo.keep (show Keeps (fun k => q < k) wr W9 by rw [hW9]; refine keeps_set (keeps_set (keeps_set (keeps_set (.of_below HX7.out) ?_ _) ?_ _) ?_ _) ?_ _ <;> (intro _ hk; have hk' : q < w.heap.size := hk; omega)) HRN.out))
                clear hW9
                refine bodyPost_ret (v := .tuple #[.agg #[.int .i64 xa.1, .int .i64 xb.1, .slice a4 n4 c4, .slice a5 n5 c5], .int .i64 0]) (by simp [results, Try.results11, go_sem, z0, z1, z2, z3]) rfl ?_
                exact ⟨_, by rw [HE.out], by rw [HVO.out]; exact HRN9.out, HX9⟩
              · have t1' : (checkN ⟨xa.1, xb.1, xc.1, xd.1⟩ != 0) = true := by simpa using hck
                have HVO := Lib.hid (decV_err (s := s) (by rw [HE.out]; exact hck))
                clear hck HVV
                generalize checkN ⟨xa.1, xb.1, xc.1, xd.1⟩ = er at *
                go_wp2_with (first | (go_at_call 9; go_must ((with_reducible refine (HCN.out).mono ?_); rintro e w7 ⟨rfl, hx7⟩; have HX7 := Lib.hid (show Ext wr w7 from hx7); have hz7 := hx7.size; have u0 := (hx7.cells _ 0 hr1).trans x0; have u1 := (hx7.cells _ 1 hr1).trans x1; have u2 := (hx7.cells _ 2 hr1).trans x2; have u3 := (hx7.cells _ 3 hr1).trans x3; have t0' := (hx7.frz _ 0 hr1).trans y0; have t1' := (hx7.frz _ 1 hr1).trans y1; have t2' := (hx7.frz _ 2 hr1).trans y2; have t3' := (hx7.frz _ 3 hr1).trans y3; have s0' := (hx7.cells _ 0 hq1').trans v3; have s1' := (hx7.cells _ 1 hq1').trans v4; have s2' := (hx7.cells _ 2 hq1').trans v6; have s3' := (hx7.cells _ 3 hq1').trans v7; have hr7 : w.heap.size < w7.heap.size := (by omega); have hq7 : q < w7.heap.size := (by omega))))
                refine body_name (fun W9 hW9 => ?_)
                have hxw := ext_trans HXW.out HX7.out
                have z0 : W9.cell? ⟨w.heap.size, 0, none⟩ = some (.int .i64 0) := by rw [hW9]; go_simp
                have z1 : W9.cell? ⟨w.heap.size, 1, none⟩ = some (.int .i64 0) := by rw [hW9]; go_simp
                have z2 : W9.cell? ⟨w.heap.size, 2, none⟩ = some (.slice none 0 0) := by rw [hW9]; go_simp
                have z3 : W9.cell? ⟨w.heap.size, 3, none⟩ = some (.slice none 0 0) := by rw [hW9]; go_simp
                have HX9 : Ext w W9 := by rw [hW9]; exact extA
                clear hW9
                refine bodyPost_ret (v := .tuple #[.agg #[.int .i64 0, .int .i64 0, .slice none 0 0, .slice none 0 0], .int .i64 er]) (by simp [results, Try.results11, go_sem, z0, z1, z2, z3]) rfl ?_
                exact ⟨_, by rw [HE.out], by rw [HVO.out]; exact rno_none, HX9⟩
            · obtain ⟨hE, hV⟩ := decR_bad (s := s) (.inr (by rw [HNP.out]; exact hem))
              have HE := Lib.hid hE
              have HVV := Lib.hid hV
              have hi9 : i < S.size := by have h := HLEN.out; have := List.length_pos_iff.2 hem; omega
              have t8 : decide ((i : Int) < (S.size : Int)) = true := decide_eq_true (by omega)
              have t9 : decide (i < S.size) = true := decide_eq_true (by omega)
              clear hE hV hsh hem
              go_wp2_with fail
              refine body_name (fun W9 hW9 => ?_)
              have hxw := HXW.out
              have z0 : W9.cell? ⟨w.heap.size, 0, none⟩ = some (.int .i64 0) := by rw [hW9]; go_simp
              have z1 : W9.cell? ⟨w.heap.size, 1, none⟩ = some (.int .i64 0) := by rw [hW9]; go_simp
              have z2 : W9.cell? ⟨w.heap.size, 2, none⟩ = some (.slice none 0 0) := by rw [hW9]; go_simp
              have z3 : W9.cell? ⟨w.heap.size, 3, none⟩ = some (.slice none 0 0) := by rw [hW9]; go_simp
              have HX9 : Ext w W9 := by rw [hW9]; exact extA
              clear hW9
              refine bodyPost_ret (v := .tuple #[.agg #[.int .i64 0, .int .i64 0, .slice none 0 0, .slice none 0 0], .int .i64 1]) (by simp [results, Try.results11, go_sem, z0, z1, z2, z3]) rfl ?_
              exact ⟨_, by rw [HE.out], by rw [HVV.out]; exact rno_none, HX9⟩
        | succ m =>
          have t1 : decide ((k : Int) < (n : Int)) = true := decide_eq_true (by omega)
          have t2 : decide (k < n) = true := decide_eq_true (by omega)
          cases hr : r'.2 with
          | true =>
            obtain ⟨e1, e2⟩ := HQ.out
            rw [times_bad hr, List.append_nil] at e1
            rw [times_bad hr] at e2
            have HV := Lib.hid (show DT W1 q b q S xa.1 xb.1 xc.1 xd.1 xd.2 wr by rw [← e1, ← e2]; exact HI'.out)
            have HX2 := Lib.hid (show xd.2.2 = true by rw [← e2]; exact hr)
            rw [hr] at hbad
            clear e1 e2 HQ HI' hr HT8 HL0 hkm
            obtain ⟨⟨i, b0, b1, b2, b3, b4, _, _, _⟩, v3, v4, v5, ⟨vn, u, v6, v7, v8, v9⟩, v10, _, _⟩ := HV.out
            have hq1' : q < wr.heap.size := World.block_lt_of_cell? _ _ v3
            have hr1 : w.heap.size < wr.heap.size := by omega
            have hrq : w.heap.size < q ∧ w.heap.size ≠ b := ⟨by omega, hrb⟩
            have hrW : w.heap.size < W1.heap.size := by omega
            have HXW := Lib.hid (kept_extN HX1.out v10 (by omega) (by omega))
            have x0 := (v10.cell hrq hrW 0).trans r0
            have y0 := (v10.frz hrq hrW 0).trans f0
            have x1 := (v10.cell hrq hrW 1).trans r1
            have y1 := (v10.frz hrq hrW 1).trans f1
            have x2 := (v10.cell hrq hrW 2).trans r2
            have y2 := (v10.frz hrq hrW 2).trans f2
            have x3 := (v10.cell hrq hrW 3).trans r3
            have y3 := (v10.frz hrq hrW 3).trans f3
            have HRN := Lib.hid (show RNo (fun k => q < k) wr [.int .i64 xa.1, .int .i64 xb.1, vn, u] ⟨xa.1, xb.1, xc.1, xd.1⟩ from ⟨_, _, rfl, HIA.out, HIB.out, RSl.more gInt (fun k hk _ => hk.1) v8, (osl_rsl gDe v9 (fun k hk _ => hk) (fun k hk => hk))⟩)
            obtain ⟨a4, n4, c4, rfl⟩ := v8.slice
            obtain ⟨a5, n5, c5, rfl⟩ := osl_slice v9
            have hlen : xd.2.1.length = S.size - i := by rw [← b3, List.length_drop, Array.length_toList]; rfl
            have HLEN := Lib.hid hlen
            clear v8 v9 v10 v5 b3 hlen HV
            have hrbn : ¬ w.heap.size = b := hrb
            have hsh : xd.2.2 = true := HX2.out
            obtain ⟨hE, hV⟩ := decR_bad (s := s) (.inl (by rw [HNP.out]; exact hsh))
            have HE := Lib.hid hE
            have HVV := Lib.hid hV
            rw [hsh] at b2
            clear hE hV hsh
            go_wp2_with fail
            refine body_name (fun W9 hW9 => ?_)
            have hxw := HXW.out
            have z0 : W9.cell? ⟨w.heap.size, 0, none⟩ = some (.int .i64 0) := by rw [hW9]; go_simp
            have z1 : W9.cell? ⟨w.heap.size, 1, none⟩ = some (.int .i64 0) := by rw [hW9]; go_simp
            have z2 : W9.cell? ⟨w.heap.size, 2, none⟩ = some (.slice none 0 0) := by rw [hW9]; go_simp
            have z3 : W9.cell? ⟨w.heap.size, 3, none⟩ = some (.slice none 0 0) := by rw [hW9]; go_simp
            have HX9 : Ext w W9 := by rw [hW9]; exact extA
            clear hW9
            refine bodyPost_ret (v := .tuple #[.agg #[.int .i64 0, .int .i64 0, .slice none 0 0, .slice none 0 0], .int .i64 1]) (by simp [results, Try.results11, go_sem, z0, z1, z2, z3]) rfl ?_
            exact ⟨_, by rw [HE.out], by rw [HVV.out]; exact rno_none, HX9⟩
          | false =>
            rw [hr] at hbad
            have HQ' := Lib.hid (show (l ++ [(deedR r').1]) ++ (timesP deedR m (deedR r').2).1 = xd.1 ∧ (timesP deedR m (deedR r').2).2 = xd.2 by
              have := HQ.out
              rw [times_good hr] at this
              exact ⟨by rw [← this.1]; simp, this.2⟩)
            have HTW := Lib.hid (fun (W : World) (h : TkAt b S r' W) => deedT_any h)
            have HLK := Lib.hid (show l.length ≤ 1000 by have := HL0.out; omega)
            have HNX := Lib.hid (show k + 1 + m = n ∧ (l ++ [(deedR r').1]).length = k + 1 by refine ⟨by omega, by rw [List.length_append, HL0.out]; rfl⟩)
            obtain ⟨_, wc0, _, hf, ⟨vn, u, hvn, hu, hns, ho⟩, _, _⟩ := HI'.out
            have HO := Lib.hid ho
            have HNS := Lib.hid hns
            obtain ⟨a3, n3, c3, rfl⟩ := osl_slice ho
            obtain rfl := (osl_len ho).1
            obtain ⟨a4, n4, c4, rfl⟩ := hns.slice
            have hqw : q < wr.heap.size := World.block_lt_of_cell? _ _ wc0
            have HVN := Lib.hid hvn
            clear ho wc0 hkm HQ hr hns hvn
            generalize deedR r' = x at *
            go_wp2_with fail
            go_region_law (first | (go_simp; go_at_call 37; ((with_reducible refine (HTW.out _ (tkAt_ext HI'.out.rd extA)).mono ?_); rintro e w6 ⟨cs, rfl, hd6, h6, hk6⟩; have HD6 := Lib.hid hd6; obtain ⟨y1, y2, y3, rfl, _, z1, _, ⟨rfl, _⟩, z2, _, _⟩ := hd6; obtain ⟨e1, m1, p1, rfl⟩ := z1.slice; obtain ⟨e2, m2, p2, rfl⟩ := z2.slice; have HT6 := Lib.hid (dt_kept HI'.out (kept_trans (kept_ext extA) hk6) h6); have HK6 := Lib.hid (show Kept (But b) wr w6 from kept_trans (kept_ext extA) hk6); have hs6 := HK6.out.size; clear h6 hk6 z1 z2; have q6 := (HK6.out.cell hqb hqw 3).trans hu; have f6 := (HK6.out.frz hqb hqw 3).trans hf; have V6 := Lib.hid ((HK6.out.cell hqb hqw 2).trans HVN.out); have HO6 := Lib.hid (osl_keptD HO.out HK6.out (show b ≤ q by omega)); have HS6 := Lib.hid (kept_rsl HNS.out HK6.out (show b ≤ q by omega)); have hq6 : q < w6.heap.size := World.block_lt_of_cell? _ _ q6; have hqn : ¬ q = w6.heap.size := (by omega))) | (refine step_appAll gDe rfl (.tmp 38) (.tmp 40) 23 rfl (q + 1) 60 j0 _ 7 96 Try.underlying23 DJ.out DZ0.out DZ1.out DZ2.out rfl (by omega) (F := fun k => q < k) (G := fun j => wr.heap.size ≤ j) (.slice a3 l.length c3) l rfl (osl_ext gDe HO6.out extA) (.slice (some ⟨w6.heap.size, 0, none⟩) 1 1) [x.1] rfl (rd_one rfl (rangeAt7G (by first | (with_reducible assumption) | go_simp) (by first | (with_reducible assumption) | go_simp) (by first | (with_reducible assumption) | go_simp) (by first | (with_reducible assumption) | go_simp) (by first | (with_reducible assumption) | go_simp) (by first | (with_reducible assumption) | go_simp) (by first | (with_reducible assumption) | go_simp)) (gDe.more (fun j hj _ => by have hj' := hj; (try simp at hj'); show wr.heap.size ≤ j; omega) (gDe.ext HD6.out extA)) (by first | omega | (simp <;> omega)) (by first | omega | (simp <;> omega)) (Nat.le_refl _) (by unfold maxLen; omega)) one_deG (fun j hj _ => ⟨by have hj' : wr.heap.size ≤ j := hj; omega, fun e => by have := (osl_lt HO.out j e.symm).2; have hj' : wr.heap.size ≤ j := hj; omega⟩) (deG_len HLK.out) (deG_byt HLK.out) (by first | omega | (simp <;> omega)) ?_; intro v9 w9 hown9 hg9 hat9; obtain ⟨a9, n9, c9, rfl⟩ := osl_slice hown9; have HFIN := Lib.hid (dt_store HT6.out V6.out HS6.out HO6.out hg9 extA hat9 hown9); obtain ⟨hc9, hf9⟩ := own_cell HO6.out q6 f6 hg9 extA; clear hg9 hat9 hown9))
            all_goals (go_wp2_with fail; go_roundw)
            all_goals first
              | (show _ < _; have := HNX.out.1; simp [intOf]; omega)
              | exact ⟨k + 1, m, l ++ [x.1], x.2, HNX.out.1, by go_num, Lib.hid HNX.out.2, HFIN, HQ'⟩
end Go.Proofs.Ytiladkinndgeaaa
