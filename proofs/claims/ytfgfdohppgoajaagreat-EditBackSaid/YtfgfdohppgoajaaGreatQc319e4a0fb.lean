/- Deeds that are right, by the document. -/
import Derived.Test.YtfgfdohppgoajaaGreatQ0968510478
import Derived.Test.YtfgfdohppgoajaaGreatQ1b6d22da0e
import Derived.Test.YtfgfdohppgoajaaGreatQ5ab4d67304
import Derived.Test.YtfgfdohppgoajaaGreatQebf1797204
import Derived.Test.YtfgfdohppgoajaaGreatQ474d344618
set_option linter.unusedVariables false
set_option linter.unusedSimpArgs false
namespace Go.Proofs.YtfgfdohppgoajaaGreat
open Go Go.RowKit Go.BigFrame Cp

def IsRawX (o : Option St) (w : World) (e : Ending) (w' : World) : Prop := match o with
  | none => e = .returned (.tuple #[.agg #[.slice none 0 0, .slice none 0 0], .bool false]) ∧ Ext w w'
  | some t => ∃ v u, e = .returned (.tuple #[.agg #[v, u], .bool true]) ∧ RSl RAt 3 (fun _ => True) w' v t.1 ∧ RSl RMk 2 (fun _ => True) w' u t.2 ∧ Ext w w'
theorem marksD_len {d : De} (h : checkD d = 0) : (marksD d).length ≤ 60 := by
  unfold marksD
  by_cases h1 : d.kind = 1
  · rw [if_pos h1, marksN_len]; exact (checkR_parts (deed_put h h1).1).2.2.1
  · rw [if_neg h1, marksN_len]
    obtain ⟨_, _, ⟨n, hn, _, _⟩, _⟩ := deed_take h h1
    rw [hn]; simp; omega
theorem marksD_put {d : De} (h1 : d.kind = 1) : marksD d = (atomsR d.run).map (·.1) := by
  unfold marksD; rw [if_pos h1, atoms_marks]
theorem atomsR_at {r : Rn} {k : Nat} (hk : k < r.2.length) : (atomsR r)[k]? = some (afterM r.1 k, r.2.getD k 0) := by simp [atomsR, hk]
set_option maxRecDepth 100000 in
set_option maxHeartbeats 4000000 in
theorem doOf_any {F G : Nat → Prop} {w : World} {cs : List Value} {s : St} {x : Value} {l : List De} (h : RSt F w cs s) (hl : RSl RDe 7 G w x l) (hs : FitS s) (hd : ∀ d ∈ l, checkD d = 0) :
    Calls Tryz.prog 65 #[.agg cs.toArray, x] w (IsRawX (doDs s l) w) := by
  have hl' : RSl RDe 7 (fun j => j < w.heap.size) w x l := RSl.more gDe (fun _ _ hk => hk) hl
  have HL := Lib.hid hl'
  obtain ⟨v, u, rfl, h1, h2⟩ := h
  have HA0 := Lib.hid h1
  have HG0 := Lib.hid h2
  obtain ⟨a0, n0, c0, rfl⟩ := h1.slice
  obtain ⟨a1, n1, c1, rfl⟩ := h2.slice
  obtain ⟨a2, n2, c2, rfl⟩ := hl'.slice
  obtain rfl : n2 = l.length := hl'.len.1
  have hll : l.length ≤ 9223372036854775807 := by have := hl'.len; unfold maxLen at this; omega
  have HFS := Lib.hid hs
  have HD := Lib.hid hd
  clear h1 h2 hl hl' hs hd
  go_enter Tryz.func65, Tryz.ntmps65
  go_wp2_with fail
  refine wp_name (fun wb ewb => ?_)
  have HWB := Lib.hid (show Ext w wb by rw [ewb]; exact extA)
  have HB := Lib.hid (show BoxIs w.heap.size s wb (.slice a0 n0 c0) (.slice a1 n1 c1) from
    ⟨by rw [ewb]; go_simp, by rw [ewb]; go_simp, fun o => by rw [ewb]; go_simp, by rw [ewb]; exact slices_ext (slices_row (heap_alloc_new w _)) (ext_alloc (ext_refl _) _) (by simp), RSl.more gAt (fun _ _ _ => trivial) (HA0.out.ext gAt HWB.out), RSl.more gMk (fun _ _ _ => trivial) (HG0.out.ext gMk HWB.out)⟩)
  have HR := Lib.hid (show BoxIs (w.heap.size + 1) ([], []) wb (.slice none 0 0) (.slice none 0 0) from
    ⟨by rw [ewb]; go_simp, by rw [ewb]; go_simp, fun o => by rw [ewb]; go_simp, by rw [ewb]; exact slices_row (by have := heap_alloc_new (w.alloc (.cells #[.slice a0 n0 c0, .slice a1 n1 c1] 25)) (.cells #[.slice none 0 0, .slice none 0 0] 25); simpa using this), RSl.nil_ (Nat.zero_le _), RSl.nil_ (Nat.zero_le _)⟩)
  clear ewb HA0 HG0
  go_loopw [6] (fun iv wr => ∃ (i : Nat) (t : St) (va vu : Value), i ≤ l.length ∧ iv = .int .i64 i ∧ Hid (doDs s (l.take i) = some t) ∧ Hid (BoxIs w.heap.size t wr va vu) ∧ Hid (BoxIs (w.heap.size + 1) ([], []) wr (.slice none 0 0) (.slice none 0 0)) ∧ Hid (Ext w wr)) (fun iv _ => l.length - (intOf iv).toNat)
  case atStart => exact ⟨0, s, _, _, Nat.zero_le _, rfl, Lib.hid rfl, HB, HR, HWB⟩
  case round =>
    obtain ⟨i, t, va, vu, hi, rfl, HT, HBX, HRX, HX⟩ := hrel
    have HFT := Lib.hid (doDs_fit HFS.out (fun d hd => HD.out d (List.mem_of_mem_take hd)) HT.out)
    by_cases hlt : i < l.length
    · obtain ⟨b, o, d, b1, m1, e1, b2, m2, e2, sx, rfl, hb, ek, hde, y0, y1, y2, y3, y4, y5, y6⟩ := deed_at HL.out hlt
      have hcd := HD.out d (List.mem_of_getElem? ek)
      have HMO := Lib.hid (fun (W : World) (hx : Ext w W) => marksOf_any (gDe.ext hde hx) hcd)
      have hms := marksD_len hcd
      obtain ⟨hn1, hn2⟩ := doDs_take ek HT.out
      have hbr : b < wr.heap.size := by have := HX.out.size; omega
      have x0 := (HX.out.cells b _ hb).trans y0
      have x1 := (HX.out.cells b _ hb).trans y1
      have x2 := (HX.out.cells b _ hb).trans y2
      have x3 := (HX.out.cells b _ hb).trans y3
      have x4 := (HX.out.cells b _ hb).trans y4
      have x5 := (HX.out.cells b _ hb).trans y5
      have x6 := (HX.out.cells b _ hb).trans y6
      by_cases hkd : d.kind = 1
      · obtain ⟨hr, hq1, hq2⟩ := deed_put hcd hkd
        clear hq1 hq2
        have hE : doDeed t d = (putNs t.2 t.1 (atomsR d.run), t.2) := by unfold doDeed; rw [if_pos hkd]
        have hk1 : (d.kind == 2) = false := by rw [hkd]; rfl
        have hmd := marksD_put hkd
        have hsx : d.run.2 = sx.data.toList := by
          obtain ⟨_, _, _, e9, _, _, _, h9, _⟩ := hde
          simp at e9
          rw [← e9.2.1] at h9
          obtain ⟨e8, _⟩ := h9
          simp at e8
          rw [e8]
        have hat : ∀ k, k < (marksD d).length → k < sx.size ∧ ∃ m, (marksD d)[k]? = some m ∧ (atomsR d.run)[k]? = some (m, sx.data.toList.getD k 0) := fun k hk => by
          have hk' : k < d.run.2.length := by rw [hmd] at hk; simpa [atomsR] using hk
          refine ⟨by rw [hsx] at hk'; simpa using hk', _, ?_, by rw [atomsR_at hk', hsx]⟩
          rw [hmd, List.getElem?_map, atomsR_at hk']; rfl
        have hal : (atomsR d.run).length = (marksD d).length := by rw [hmd, List.length_map]
        have hra := (checkA_ok (atoms_right hr)).2.2
        have HAT := Lib.hid hat
        have HAL := Lib.hid hal
        have HRA := Lib.hid hra
        rw [hE] at hn1 hn2
        have HN1 := Lib.hid hn1
        have HN2 := Lib.hid hn2
        clear hE hr hmd hsx hat hal hra hn1 hn2 ek hde hcd hkd
        generalize hmsd : marksD d = ms at *
        generalize hats : atomsR d.run = ats at *
        clear hmsd hats
        generalize d.kind = dk at *
        generalize d.run.1.2 = rc at *
        generalize d.mark.2 = mc at *
        generalize d.many = dn at *
        go_wp2_with (first | (go_at_call 114; go_must ((with_reducible refine (HMO.out _ (ext_trans HX.out extA)).mono ?_); rintro e w3 ⟨mv, rfl, hmv, hx3⟩; obtain ⟨am, nm, cm, rfl⟩ := hmv.slice; obtain rfl : nm = ms.length := hmv.len.1; have HB3 := Lib.hid (box_ext HBX.out (ext_trans extA hx3)); have HR3 := Lib.hid (box_ext HRX.out (ext_trans extA hx3)); have HX3 := Lib.hid (ext_trans HX.out (ext_trans extA hx3)); have hlr := HRX.out.lt; have HM3 := Lib.hid (show RSl RMk 2 (fun j => w.heap.size + 2 ≤ j) w3 (.slice am ms.length cm) ms from RSl.more gMk (fun j hj _ => by first | omega | (simp at hj; omega)) hmv); clear hmv)))
        go_loopw [8] (fun kv wr => ∃ (k : Nat) (va' : Value), k ≤ ms.length ∧ kv = .int .i64 k ∧ Hid (BoxIs w.heap.size (putNs t.2 t.1 (ats.take k), t.2) wr va' vu) ∧ Hid (BoxIs (w.heap.size + 1) ([], []) wr (.slice none 0 0) (.slice none 0 0)) ∧ Hid (Ext w wr) ∧ Hid (RSl RMk 2 (fun j => w.heap.size + 2 ≤ j) wr (.slice am ms.length cm) ms)) (fun kv _ => ms.length - (intOf kv).toNat)
        case atStart => exact ⟨0, va, Nat.zero_le _, rfl, HB3, HR3, HX3, HM3⟩
        case round =>
          obtain ⟨k, va', hk', rfl, HBq, HRq, HXq, HMq⟩ := hrel
          obtain ⟨aa, na, ca, rfl⟩ := HBq.out.at_.slice
          obtain ⟨au, nu, cu, rfl⟩ := HBq.out.go.slice
          have z0 := (HXq.out.cells b _ hb).trans y0
          have z3 := (HXq.out.cells b _ hb).trans y3
          have p0 := HBq.out.c0
          have p1 := HBq.out.c1
          have pf0 := HBq.out.fz 0
          have pf1 := HBq.out.fz 1
          have hsq := HXq.out.size
          have hbq : b < wr.heap.size := by omega
          have hwr : w.heap.size < wr.heap.size := HBq.out.lt
          by_cases hlt' : k < ms.length
          · obtain ⟨hks, mm, hm1, hm2⟩ := HAT.out k hlt'
            obtain ⟨bm, om, p, dd, ap, cp, rfl, hbm, ekm, ick, hpp, m0, m1⟩ := mark_at HMq.out hlt'
            obtain rfl : mm = (p, dd) := by rw [ekm] at hm1; exact (Option.some.inj hm1).symm
            have HHG := Lib.hid (fun (W : World) (hx : Ext wr W) => hasGone_any (box_ext HBq.out hx).go (rmk_of' (hpp.ext gStp hx) ick))
            have hst := putNs_take (g := t.2) (l := t.1) hm2
            have HST := Lib.hid hst
            have HPP := Lib.hid (fun (W : World) (hx : Ext wr W) => hpp.ext gStp hx)
            have HIC := Lib.hid ick
            have hgd := byte_getD hks
            have hbmq : bm < wr.heap.size := hbm
            clear hm1 hm2 ekm ick hpp hst
            cases hg : hasG t.2 (p, dd) with
            | true =>
              rw [hg] at HHG
              have HSE := Lib.hid (show putNs t.2 t.1 (ats.take (k + 1)) = putNs t.2 t.1 (ats.take k) by rw [HST.out]; unfold putN; rw [hg, if_pos rfl])
              clear hg HST
              go_wp2_with fail
              refine wp_name (fun W2 eW2 => ?_)
              have e1 : W2.cell? ⟨w.heap.size, 1, none⟩ = some (.slice au nu cu) := by rw [eW2]; go_simp
              have e2 : W2.cell? ⟨bm, om + k * 2, none⟩ = some (.slice ap p.length cp) := by rw [eW2]; go_simp
              have e3 : W2.cell? ⟨bm, om + k * 2 + 1, none⟩ = some (.int .i64 dd) := by rw [eW2]; go_simp
              have zW2_0 : bm < W2.heap.size := by rw [eW2]; first | assumption | omega | (simp <;> omega)
              have zW2_1 : w.heap.size < W2.heap.size := by rw [eW2]; first | assumption | omega | (simp <;> omega)
              have hw2 : Ext wr W2 := by rw [eW2]; exact extA
              clear eW2
              refine wp_region_later fol (by kernel_rfl) (fun hlater => ?_)
              repeat (go_big_quiet_step ((first
                  | (go_at_call 83; (with_reducible exact later_of (HHG.out _ (ext_trans hw2 (Later.ext _))))))))
              refine wpQuiet_nil ?_
              rintro W3 ⟨⟨w3x, hx3⟩, rfl⟩
              clear hlater
              have hR3 : Ext wr W3 := ext_trans hw2 hx3
              have hs3 := hR3.size
              clear e1 e2 e3 hx3 hw2
              go_wp2_with fail
              go_roundw
              case rel => exact ⟨k + 1, _, by omega, by go_num, Lib.hid (by rw [HSE.out]; exact box_ext HBq.out hR3), Lib.hid (box_ext HRq.out hR3), Lib.hid (ext_trans HXq.out hR3), Lib.hid (HMq.out.ext gMk hR3)⟩
              case measure => simp [intOf]; omega
            | false =>
              rw [hg] at HHG
              have HSE := Lib.hid (show putNs t.2 t.1 (ats.take (k + 1)) = putA (putNs t.2 t.1 (ats.take k)) ((p, dd), sx[k]) by rw [HST.out, hgd]; unfold putN; rw [hg, if_neg (by simp)])
              have HPA := Lib.hid (fun (W : World) (hx : Ext wr W) => docPut_any (box_ext HBq.out hx).at_ (rat_of (HPP.out W hx) HIC.out (s := sx[k])) (putNs_right HFT.out.1.1 (fun a ha => HRA.out a (List.mem_of_mem_take ha))).1 (Nat.le_trans (putNs_len _ _ _) (by have h3 := HFT.out.2.1; rw [List.length_take]; omega)))
              clear hg HST
              go_wp2_with fail
              refine wp_name (fun W2 eW2 => ?_)
              have e1 : W2.cell? ⟨w.heap.size, 1, none⟩ = some (.slice au nu cu) := by rw [eW2]; go_simp
              have e2 : W2.cell? ⟨bm, om + k * 2, none⟩ = some (.slice ap p.length cp) := by rw [eW2]; go_simp
              have e3 : W2.cell? ⟨bm, om + k * 2 + 1, none⟩ = some (.int .i64 dd) := by rw [eW2]; go_simp
              have zW2_0 : bm < W2.heap.size := by rw [eW2]; first | assumption | omega | (simp <;> omega)
              have zW2_1 : w.heap.size < W2.heap.size := by rw [eW2]; first | assumption | omega | (simp <;> omega)
              have hw2 : Ext wr W2 := by rw [eW2]; exact extA
              clear eW2
              refine wp_region_later fol (by kernel_rfl) (fun hlater => ?_)
              repeat (go_big_quiet_step ((first
                  | (go_at_call 83; (with_reducible exact later_of (HHG.out _ (ext_trans hw2 (Later.ext _))))))))
              refine wpQuiet_nil ?_
              rintro W3 ⟨⟨w3x, hx3⟩, rfl⟩
              clear hlater
              have hR3 : Ext wr W3 := ext_trans hw2 hx3
              have hs3 := hR3.size
              clear e1 e2 e3 hx3 hw2
              go_wp2_with fail
              refine wp_name (fun W4 eW4 => ?_)
              have HR4 := Lib.hid (show Ext wr W4 by rw [eW4]; exact hR3)
              clear eW4
              have hs4 := HR4.out.size
              have t0 := (HR4.out.cells _ _ hwr).trans p0
              have t1 := (HR4.out.cells _ _ hwr).trans p1
              have tf0 := (HR4.out.frz _ _ hwr).trans pf0
              have t2 := (HR4.out.cells _ _ hbmq).trans m0
              have t3 := (HR4.out.cells _ _ hbmq).trans m1
              have t4 := (HR4.out.cells _ _ hbq).trans z3
              refine wp_region_tail 15 fol (by kernel_rfl) (fun W hW => ?_)
              subst hW
              simp only [List.take_succ_cons, List.take_zero, List.drop_succ_cons, List.drop_zero]
              repeat (go_big_quiet_step (fail))
              refine wpQuiet_nil ?_
              go_wp2_with (first | (go_at_call 116; go_must ((with_reducible refine (HPA.out _ (ext_trans HR4.out extA)).mono ?_); rintro e w5 ⟨v5, rfl, hv5, hx5⟩; obtain ⟨a5, n5, c5, rfl⟩ := hv5.slice; have HV5 := Lib.hid hv5; have HB5 := Lib.hid (box_ext HBq.out (ext_trans (ext_trans HR4.out extA) hx5)); have HR5 := Lib.hid (box_ext HRq.out (ext_trans (ext_trans HR4.out extA) hx5)); have HX5 := Lib.hid (ext_trans HXq.out (ext_trans (ext_trans HR4.out extA) hx5)); have HM5 := Lib.hid (HMq.out.ext gMk (ext_trans (ext_trans HR4.out extA) hx5)); have q0 := HB5.out.c0; have q1 := HB5.out.c1; have qf0 := HB5.out.fz 0; have qf1 := HB5.out.fz 1; clear hv5 hx5)))
              go_roundw
              case rel => exact ⟨k + 1, _, by omega, by go_num, Lib.hid (by rw [HSE.out]; exact box_set0 (t := (putNs t.2 t.1 (ats.take k), t.2)) HB5.out HV5.out), Lib.hid (box_other HR5.out (show w.heap.size ≠ w.heap.size + 1 by omega) HB5.out.sl _ _ _ _), Lib.hid (ext_set HX5.out (Nat.le_refl _) _), Lib.hid (HM5.out.keep gMk (keeps_set keeps_refl (fun _ h => by have h' : w.heap.size + 2 ≤ w.heap.size := h; omega) _))⟩
              case measure => simp [intOf]; omega
          · obtain rfl : k = ms.length := by omega
            have HBF := Lib.hid (show BoxIs w.heap.size (putNs t.2 t.1 ats, t.2) wr (.slice aa na ca) (.slice au nu cu) by have := HBq.out; rwa [List.take_of_length_le (by rw [HAL.out]; exact Nat.le_refl _)] at this)
            have HRF := HRq
            have HXF := HXq
            have e3 := HBF.out.at_.len.1
            have e4 := HBF.out.go.len.1
            (try simp only at e3 e4)
            subst e3 e4
            have r0 := HRF.out.c0
            have r1 := HRF.out.c1
            have rf0 := HRF.out.fz 0
            have rf1 := HRF.out.fz 1
            by_cases g3 : 300 < (putNs t.2 t.1 ats).length
            · have HNN := Lib.hid (HN1.out (by simp only [tooMuch, Bool.or_eq_true, decide_eq_true_eq]; omega))
              have g1 : decide ((300 : Int) < ((putNs t.2 t.1 ats).length : Int)) = true := decide_eq_true (by omega)
              have g2 : decide (300 < (putNs t.2 t.1 ats).length) = true := decide_eq_true g3
              go_wp2_with fail
              refine bodyPost_ret (v := .tuple #[.agg #[.slice none 0 0, .slice none 0 0], .bool false]) (by simp [results, Tryz.results65, go_sem, r0, r1]) rfl (by rw [HNN.out]; exact ⟨rfl, ext_set (ext_set HXF.out (by show w.heap.size ≤ w.heap.size + 1; omega) _) (by show w.heap.size ≤ w.heap.size + 1; omega) _⟩)
            · by_cases g6 : 600 < (t.2).length
              · have HNN := Lib.hid (HN1.out (by simp only [tooMuch, Bool.or_eq_true, decide_eq_true_eq]; omega))
                have g1 : decide ((300 : Int) < ((putNs t.2 t.1 ats).length : Int)) = false := decide_eq_false (by omega)
                have g2 : decide (300 < (putNs t.2 t.1 ats).length) = false := decide_eq_false g3
                have g4 : decide ((600 : Int) < ((t.2).length : Int)) = true := decide_eq_true (by omega)
                have g5 : decide (600 < (t.2).length) = true := decide_eq_true g6
                go_wp2_with fail
                refine bodyPost_ret (v := .tuple #[.agg #[.slice none 0 0, .slice none 0 0], .bool false]) (by simp [results, Tryz.results65, go_sem, r0, r1]) rfl (by rw [HNN.out]; exact ⟨rfl, ext_set (ext_set HXF.out (by show w.heap.size ≤ w.heap.size + 1; omega) _) (by show w.heap.size ≤ w.heap.size + 1; omega) _⟩)
              · have HNN := Lib.hid (HN2.out (by simp only [tooMuch, Bool.or_eq_false_iff, decide_eq_false_iff_not]; omega))
                have g1 : decide ((300 : Int) < ((putNs t.2 t.1 ats).length : Int)) = false := decide_eq_false (by omega)
                have g2 : decide (300 < (putNs t.2 t.1 ats).length) = false := decide_eq_false g3
                have g4 : decide ((600 : Int) < ((t.2).length : Int)) = false := decide_eq_false (by omega)
                have g5 : decide (600 < (t.2).length) = false := decide_eq_false g6
                go_wp2_with fail
                go_roundw
                case rel => exact ⟨i + 1, _, _, _, by omega, by go_num, HNN, HBF, HRF, HXF⟩
                case measure => simp [intOf]; omega
      · obtain ⟨hk2, hq⟩ := deed_take hcd hkd
        clear hq
        have hE : doDeed t d = (takeA t.1 (marksD d), putGs t.2 (marksD d)) := by unfold doDeed; rw [if_neg hkd]
        have hk1 : (d.kind == 2) = true := by rw [hk2]; rfl
        rw [hE] at hn1 hn2
        have HN1 := Lib.hid hn1
        have HN2 := Lib.hid hn2
        clear hE hn1 hn2 ek hde hcd hkd hk2
        generalize hmsd : marksD d = ms at *
        clear hmsd
        generalize d.kind = dk at *
        generalize d.run.1.2 = rc at *
        generalize d.mark.2 = mc at *
        generalize d.many = dn at *
        go_wp2_with (first | (go_at_call 114; go_must ((with_reducible refine (HMO.out _ (ext_trans HX.out extA)).mono ?_); rintro e w3 ⟨mv, rfl, hmv, hx3⟩; obtain ⟨am, nm, cm, rfl⟩ := hmv.slice; obtain rfl : nm = ms.length := hmv.len.1; have HB3 := Lib.hid (box_ext HBX.out (ext_trans extA hx3)); have HR3 := Lib.hid (box_ext HRX.out (ext_trans extA hx3)); have HX3 := Lib.hid (ext_trans HX.out (ext_trans extA hx3)); have hlr := HRX.out.lt; have HM3 := Lib.hid (show RSl RMk 2 (fun j => w.heap.size + 2 ≤ j) w3 (.slice am ms.length cm) ms from RSl.more gMk (fun j hj _ => by first | omega | (simp at hj; omega)) hmv); clear hmv)))
        go_loopw [8] (fun kv wr => ∃ (k : Nat) (vu' : Value), k ≤ ms.length ∧ kv = .int .i64 k ∧ Hid (BoxIs w.heap.size (t.1, putGs t.2 (ms.take k)) wr va vu') ∧ Hid (BoxIs (w.heap.size + 1) ([], []) wr (.slice none 0 0) (.slice none 0 0)) ∧ Hid (Ext w wr) ∧ Hid (RSl RMk 2 (fun j => w.heap.size + 2 ≤ j) wr (.slice am ms.length cm) ms)) (fun kv _ => ms.length - (intOf kv).toNat)
        case atStart => exact ⟨0, vu, Nat.zero_le _, rfl, HB3, HR3, HX3, HM3⟩
        case round =>
          obtain ⟨k, vu', hk', rfl, HBq, HRq, HXq, HMq⟩ := hrel
          obtain ⟨aa, na, ca, rfl⟩ := HBq.out.at_.slice
          obtain ⟨au, nu, cu, rfl⟩ := HBq.out.go.slice
          have z0 := (HXq.out.cells b _ hb).trans y0
          have z3 := (HXq.out.cells b _ hb).trans y3
          have p0 := HBq.out.c0
          have p1 := HBq.out.c1
          have pf0 := HBq.out.fz 0
          have pf1 := HBq.out.fz 1
          have hsq := HXq.out.size
          have hbq : b < wr.heap.size := by omega
          have hwr : w.heap.size < wr.heap.size := HBq.out.lt
          by_cases hlt' : k < ms.length
          · obtain ⟨bm, om, p, dd, ap, cp, rfl, hbm, ekm, ick, hpp, m0, m1⟩ := mark_at HMq.out hlt'
            have HEX := Lib.hid (putGs_take (l := t.2) ekm)
            have HPG := Lib.hid (fun (W : World) (hx : Ext wr W) => putGone_any (box_ext HBq.out hx).go (rmk_of' (hpp.ext gStp hx) ick) (putGs_sorted HFT.out.1.2.1) (Nat.le_trans (putGs_len _ _) (by have h3 := HFT.out.2.2; rw [List.length_take]; omega)))
            have hbmq : bm < wr.heap.size := hbm
            clear ekm ick hpp
            go_wp2_with fail
            refine wp_region_tail 6 fol (by kernel_rfl) (fun W hW => ?_)
            subst hW
            simp only [List.take_succ_cons, List.take_zero, List.drop_succ_cons, List.drop_zero]
            repeat (go_big_quiet_step (fail))
            refine wpQuiet_nil ?_
            go_wp2_with (first | (go_at_call 115; go_must ((with_reducible refine (HPG.out _ extA).mono ?_); rintro e w5 ⟨v5, rfl, hv5, hx5⟩; obtain ⟨a5, n5, c5, rfl⟩ := hv5.slice; have HV5 := Lib.hid hv5; have HB5 := Lib.hid (box_ext HBq.out (ext_trans extA hx5)); have HR5 := Lib.hid (box_ext HRq.out (ext_trans extA hx5)); have HX5 := Lib.hid (ext_trans HXq.out (ext_trans extA hx5)); have HM5 := Lib.hid (HMq.out.ext gMk (ext_trans extA hx5)); have q0 := HB5.out.c0; have q1 := HB5.out.c1; have qf0 := HB5.out.fz 0; have qf1 := HB5.out.fz 1; clear hv5 hx5)))
            go_roundw
            case rel => exact ⟨k + 1, _, by omega, by go_num, Lib.hid (by rw [HEX.out]; exact box_set1 (t := (t.1, putGs t.2 (ms.take k))) HB5.out HV5.out), Lib.hid (box_other HR5.out (show w.heap.size ≠ w.heap.size + 1 by omega) HB5.out.sl _ _ _ _), Lib.hid (ext_set HX5.out (Nat.le_refl _) _), Lib.hid (HM5.out.keep gMk (keeps_set keeps_refl (fun _ h => by have h' : w.heap.size + 2 ≤ w.heap.size := h; omega) _))⟩
            case measure => simp [intOf]; omega
          · obtain rfl : k = ms.length := by omega
            have HTK := Lib.hid (fun (W : World) (hx : Ext wr W) => takeOf_any (box_ext HBq.out hx).at_ (HMq.out.ext gMk hx) HFT.out.2.1)
            have HBq2 := Lib.hid (show BoxIs w.heap.size (t.1, putGs t.2 ms) wr (.slice aa na ca) (.slice au nu cu) by have := HBq.out; rwa [List.take_of_length_le (Nat.le_refl _)] at this)
            obtain rfl : nu = (putGs t.2 ms).length := HBq2.out.go.len.1
            by_cases g3 : 300 < (takeA t.1 ms).length
            · have HNN := Lib.hid (HN1.out (by simp only [tooMuch, Bool.or_eq_true, decide_eq_true_eq]; omega))
              have g1 : decide ((300 : Int) < ((takeA t.1 ms).length : Int)) = true := decide_eq_true (by omega)
              have g2 : decide (300 < (takeA t.1 ms).length) = true := decide_eq_true g3
              go_wp2_with (first | (go_at_call 117; go_must ((with_reducible refine (HTK.out _ extA).mono ?_); rintro e w6 ⟨v6, rfl, hv6, hx6⟩; obtain ⟨a6, n6, c6, rfl⟩ := hv6.slice; obtain rfl : n6 = (takeA t.1 ms).length := hv6.len.1; have hb6 := box_ext HBq2.out (ext_trans extA hx6); have q0 := hb6.c0; have q1 := hb6.c1; have qf0 := hb6.fz 0; have HR6 := box_ext HRq.out (ext_trans extA hx6); have HBF := Lib.hid (show BoxIs w.heap.size (takeA t.1 ms, putGs t.2 ms) (w6.setCell ⟨w.heap.size, 0, none⟩ (.slice a6 (takeA t.1 ms).length c6)) (.slice a6 (takeA t.1 ms).length c6) (.slice au (putGs t.2 ms).length cu) from box_set0 hb6 hv6); have HRF := Lib.hid (box_other HR6 (show w.heap.size ≠ w.heap.size + 1 by omega) hb6.sl 0 a6 (takeA t.1 ms).length c6); have HXF := Lib.hid (ext_set (ext_trans HXq.out (ext_trans extA hx6)) (show w.heap.size ≤ w.heap.size from Nat.le_refl _) (.slice a6 (takeA t.1 ms).length c6) (p := ⟨w.heap.size, 0, none⟩)); have r0 := HR6.c0; have r1 := HR6.c1; have rf0 := HR6.fz 0; have rf1 := HR6.fz 1; have hs6 := hb6.lt; have hs6r := HR6.lt; clear hv6 hb6 HR6)))
              refine bodyPost_ret (v := .tuple #[.agg #[.slice none 0 0, .slice none 0 0], .bool false]) (by simp [results, Tryz.results65, go_sem, r0, r1]) rfl (by rw [HNN.out]; exact ⟨rfl, ext_set (ext_set HXF.out (by show w.heap.size ≤ w.heap.size + 1; omega) _) (by show w.heap.size ≤ w.heap.size + 1; omega) _⟩)
            · by_cases g6 : 600 < (putGs t.2 ms).length
              · have HNN := Lib.hid (HN1.out (by simp only [tooMuch, Bool.or_eq_true, decide_eq_true_eq]; omega))
                have g1 : decide ((300 : Int) < ((takeA t.1 ms).length : Int)) = false := decide_eq_false (by omega)
                have g2 : decide (300 < (takeA t.1 ms).length) = false := decide_eq_false g3
                have g4 : decide ((600 : Int) < ((putGs t.2 ms).length : Int)) = true := decide_eq_true (by omega)
                have g5 : decide (600 < (putGs t.2 ms).length) = true := decide_eq_true g6
                go_wp2_with (first | (go_at_call 117; go_must ((with_reducible refine (HTK.out _ extA).mono ?_); rintro e w6 ⟨v6, rfl, hv6, hx6⟩; obtain ⟨a6, n6, c6, rfl⟩ := hv6.slice; obtain rfl : n6 = (takeA t.1 ms).length := hv6.len.1; have hb6 := box_ext HBq2.out (ext_trans extA hx6); have q0 := hb6.c0; have q1 := hb6.c1; have qf0 := hb6.fz 0; have HR6 := box_ext HRq.out (ext_trans extA hx6); have HBF := Lib.hid (show BoxIs w.heap.size (takeA t.1 ms, putGs t.2 ms) (w6.setCell ⟨w.heap.size, 0, none⟩ (.slice a6 (takeA t.1 ms).length c6)) (.slice a6 (takeA t.1 ms).length c6) (.slice au (putGs t.2 ms).length cu) from box_set0 hb6 hv6); have HRF := Lib.hid (box_other HR6 (show w.heap.size ≠ w.heap.size + 1 by omega) hb6.sl 0 a6 (takeA t.1 ms).length c6); have HXF := Lib.hid (ext_set (ext_trans HXq.out (ext_trans extA hx6)) (show w.heap.size ≤ w.heap.size from Nat.le_refl _) (.slice a6 (takeA t.1 ms).length c6) (p := ⟨w.heap.size, 0, none⟩)); have r0 := HR6.c0; have r1 := HR6.c1; have rf0 := HR6.fz 0; have rf1 := HR6.fz 1; have hs6 := hb6.lt; have hs6r := HR6.lt; clear hv6 hb6 HR6)))
                refine bodyPost_ret (v := .tuple #[.agg #[.slice none 0 0, .slice none 0 0], .bool false]) (by simp [results, Tryz.results65, go_sem, r0, r1]) rfl (by rw [HNN.out]; exact ⟨rfl, ext_set (ext_set HXF.out (by show w.heap.size ≤ w.heap.size + 1; omega) _) (by show w.heap.size ≤ w.heap.size + 1; omega) _⟩)
              · have HNN := Lib.hid (HN2.out (by simp only [tooMuch, Bool.or_eq_false_iff, decide_eq_false_iff_not]; omega))
                have g1 : decide ((300 : Int) < ((takeA t.1 ms).length : Int)) = false := decide_eq_false (by omega)
                have g2 : decide (300 < (takeA t.1 ms).length) = false := decide_eq_false g3
                have g4 : decide ((600 : Int) < ((putGs t.2 ms).length : Int)) = false := decide_eq_false (by omega)
                have g5 : decide (600 < (putGs t.2 ms).length) = false := decide_eq_false g6
                go_wp2_with (first | (go_at_call 117; go_must ((with_reducible refine (HTK.out _ extA).mono ?_); rintro e w6 ⟨v6, rfl, hv6, hx6⟩; obtain ⟨a6, n6, c6, rfl⟩ := hv6.slice; obtain rfl : n6 = (takeA t.1 ms).length := hv6.len.1; have hb6 := box_ext HBq2.out (ext_trans extA hx6); have q0 := hb6.c0; have q1 := hb6.c1; have qf0 := hb6.fz 0; have HR6 := box_ext HRq.out (ext_trans extA hx6); have HBF := Lib.hid (show BoxIs w.heap.size (takeA t.1 ms, putGs t.2 ms) (w6.setCell ⟨w.heap.size, 0, none⟩ (.slice a6 (takeA t.1 ms).length c6)) (.slice a6 (takeA t.1 ms).length c6) (.slice au (putGs t.2 ms).length cu) from box_set0 hb6 hv6); have HRF := Lib.hid (box_other HR6 (show w.heap.size ≠ w.heap.size + 1 by omega) hb6.sl 0 a6 (takeA t.1 ms).length c6); have HXF := Lib.hid (ext_set (ext_trans HXq.out (ext_trans extA hx6)) (show w.heap.size ≤ w.heap.size from Nat.le_refl _) (.slice a6 (takeA t.1 ms).length c6) (p := ⟨w.heap.size, 0, none⟩)); have r0 := HR6.c0; have r1 := HR6.c1; have rf0 := HR6.fz 0; have rf1 := HR6.fz 1; have hs6 := hb6.lt; have hs6r := HR6.lt; clear hv6 hb6 HR6)))
                go_roundw
                case rel => exact ⟨i + 1, _, _, _, by omega, by go_num, HNN, HBF, HRF, HXF⟩
                case measure => simp [intOf]; omega
    · obtain rfl : i = l.length := by omega
      have HTT := Lib.hid (show doDs s l = some t by have := HT.out; rwa [List.take_of_length_le (Nat.le_refl _)] at this)
      obtain ⟨aa, na, ca, rfl⟩ := HBX.out.at_.slice
      obtain ⟨au, nu, cu, rfl⟩ := HBX.out.go.slice
      have p0 := HBX.out.c0
      have p1 := HBX.out.c1
      have r0 := HRX.out.c0
      have r1 := HRX.out.c1
      have rf0 := HRX.out.fz 0
      have rf1 := HRX.out.fz 1
      go_wp2_with fail
      refine bodyPost_ret (v := .tuple #[.agg #[.slice aa na ca, .slice au nu cu], .bool true]) (by simp [results, Tryz.results65, go_sem, r0, r1]) rfl (by
        rw [HTT.out]
        have hb1 := box_other HBX.out (show w.heap.size + 1 ≠ w.heap.size by omega) HRX.out.sl 0 aa na ca
        have hr1 := slices_set HRX.out.sl ⟨w.heap.size + 1, 0, none⟩ aa na ca
        have hb2 := box_other hb1 (show w.heap.size + 1 ≠ w.heap.size by omega) hr1 1 au nu cu
        exact ⟨_, _, rfl, hb2.at_, hb2.go, ext_set (ext_set HX.out (by show w.heap.size ≤ w.heap.size + 1; omega) _) (by show w.heap.size ≤ w.heap.size + 1; omega) _⟩)
end Go.Proofs.YtfgfdohppgoajaaGreat
/- run.Of, by the program. -/
namespace Go.Proofs.YtfgfdohppgoajaaGreat
open Go Go.RowKit Go.BigFrame Cp

set_option maxRecDepth 100000 in
set_option maxHeartbeats 4000000 in
theorem runOf_any {F : Nat → Prop} {w : World} {v : Value} {l : List At} (h : RSl RAt 3 F w v l) (hc : checkA l = 0) :
    Calls Tryz.prog 50 #[v] w (IsRunsR (runsA l) w) := by
  have HOK := Lib.hid (checkA_ok hc)
  have hl3 := HOK.out.1
  have HL := Lib.hid (fun (W : World) (hx : Ext w W) => h.ext gAt hx)
  obtain ⟨a0, n0, c0, rfl⟩ := h.slice
  obtain ⟨rfl, _, _⟩ := h.len
  obtain ⟨i0, hi0, hz0, hz1', hz2⟩ := info_parts info_run
  have HJ := Lib.hid hi0
  have HZ0 := Lib.hid hz0
  have HZ1 := Lib.hid hz1'
  have HZ2 := Lib.hid hz2
  clear h hc hi0 hz0 hz1' hz2
  go_enter Tryz.func50, Tryz.ntmps50
  go_wp2
  go_loopw [3, 9] (fun ov iv wr => ∃ k : Nat, k ≤ l.length ∧ iv = .int .i64 k ∧ Hid (OSl RRn 3 61 w.heap.size (fun j => w.heap.size ≤ j) wr ov (runsA (l.take k))) ∧ Hid (RunsOk (runsA (l.take k))) ∧ Ext w wr) (fun _ iv _ => l.length - (intOf iv).toNat)
  case atStart => exact ⟨0, Nat.zero_le _, rfl, Lib.hid osl_nil, Lib.hid (fun r hr => by simp [runsA] at hr), ext_refl _⟩
  case round =>
    obtain ⟨k, hk, rfl, HO, HR, hx⟩ := hrel
    have hzr := hx.size
    have HX := Lib.hid hx
    clear hx
    obtain ⟨a5, n5, c5, rfl⟩ := osl_slice HO.out
    by_cases hlt : k < l.length
    · obtain ⟨b, o, p, d, s, ap, cp, rfl, hb, ek, ick, hpp, y0, y1, y2⟩ := atm_at (HL.out wr HX.out) hlt
      have hat := HOK.out.2.2 _ (List.mem_of_getElem? ek)
      have HS := Lib.hid (runsA_step ek)
      have HRN := Lib.hid (show RunsOk (runsA (l.take (k + 1))) by rw [HS.out]; exact runsOk_step HR.out hat.1)
      have hql := runsA_len l k
      have HOW := Lib.hid (fun (W : World) (hx : Ext wr W) => own_any (rmk_of' (hpp.ext gStp hx) ick) (check_len hat.1))
      have HAT := Lib.hid (fun (W : World) (hx : Ext wr W) => rat_of (s := s) (hpp.ext gStp hx) ick)
      have HIC := Lib.hid ick
      have hs127 : s.toNat ≤ 126 := by
        have h1 := hat.2
        rw [sgn_in] at h1
        unfold inB at h1
        simp at h1
        omega
      obtain ⟨eb, heb⟩ : ∃ eb : ByteArray, eb = ⟨#[s]⟩ := ⟨_, rfl⟩
      have henc : Utf8.encode ((s.toNat : Nat) : Int) = eb := by rw [heb]; exact encode_sign hs127
      have HEB := Lib.hid heb
      have hebs : eb.size ≤ 1 := by rw [heb]; exact Nat.le_refl 1
      clear heb
      have hs32 : 32 ≤ s.toNat := by
        have h1 := hat.2
        rw [sgn_in] at h1
        unfold inB at h1
        simp at h1
        omega
      have hn1 : ¬ b = wr.heap.size := by omega
      have hn2 : ¬ wr.heap.size = b := by omega
      have HOL := Lib.hid (osl_lt HO.out)
      clear ek hpp ick hat
      generalize hqq : runsA (l.take k) = q at *
      clear hqq
      by_cases hq0 : q.length = 0
      · obtain rfl : q = [] := List.length_eq_zero_iff.1 hq0
        obtain rfl : n5 = 0 := (osl_len HO.out).1
        rw [runStep_nil] at HS
        clear hq0 hql
        go_wp2_with fail
        refine wp_name (fun W2 eW2 => ?_)
        have e0 : W2.cell? ⟨wr.heap.size, 0, none⟩ = some (.slice ap p.length cp) := by rw [eW2]; go_simp
        have e1 : W2.cell? ⟨wr.heap.size, 1, none⟩ = some (.int .i64 d) := by rw [eW2]; go_simp
        have e2 : W2.cell? ⟨wr.heap.size, 2, none⟩ = some (.int .u8 s.toNat) := by rw [eW2]; go_simp
        have zW2_0 : wr.heap.size < W2.heap.size := by rw [eW2]; first | assumption | omega | (simp <;> omega)
        have hw2 : Ext wr W2 := by rw [eW2]; exact extA
        clear eW2
        refine wp_region_later fol (by kernel_rfl) (fun hlater => ?_)
        repeat (go_big_quiet_step ((fail)))
        refine wpQuiet_nil ?_
        rintro w3 ⟨⟨w3x, hx3⟩, rfl⟩
        clear hlater
        have fz0 := (hx3.cells wr.heap.size 0 (by omega)).trans e0
        have fz1 := (hx3.cells wr.heap.size 1 (by omega)).trans e1
        have fz2 := (hx3.cells wr.heap.size 2 (by omega)).trans e2
        have hz3 := hx3.size
        have hw3 : Ext wr w3 := ext_trans hw2 hx3
        have hb3 : wr.heap.size < w3.heap.size := by omega
        go_wp2_with (first
          | (go_at_call 73; go_must ((with_reducible refine (HOW.out _ (ext_trans hw3 extA)).mono ?_); rintro e w4 ⟨cs4, rfl, hm4, hx4⟩; have HM4 := Lib.hid (omk_mk hm4); obtain ⟨v4, rfl, hv4, _⟩ := hm4; obtain ⟨a4, n4, c4, rfl⟩ := osl_slice hv4; have hz4 := hx4.size; have m0 := (hx4.cells (wr.heap.size) (0) (by first | omega | (simp <;> omega))).trans (show _ = some (.slice ap p.length cp) by first | assumption | go_simp); have m1 := (hx4.cells (wr.heap.size) (1) (by first | omega | (simp <;> omega))).trans (show _ = some (.int .i64 d) by first | assumption | go_simp); have m2 := (hx4.cells (wr.heap.size) (2) (by first | omega | (simp <;> omega))).trans (show _ = some (.int .u8 s.toNat) by first | assumption | go_simp); have hb4 : wr.heap.size < w4.heap.size := (by omega); clear hv4))
          | (at_builtin; go_must (refine wpList_app1 gRn rfl (.tmp 27) (.tmp 32) 49 rfl w.heap.size 61 i0 _ 3 48 Tryz.underlying49 HJ.out HZ0.out HZ1.out HZ2.out rfl (by omega) (F := fun j => w.heap.size ≤ j) (G := fun j => w3.heap.size ≤ j) (.slice a5 0 c5) [] rfl (osl_ext gRn HO.out (ext_trans hw3 extA)) w4.heap.size 0 1 [.slice a4 n4 c4, .int .i64 d, .string ⟨#[]⟩] ((p, d), []) rfl rfl (rangeAt3 (by go_simp) (by go_simp) (by go_simp)) (one_rn _ w4 _ ((p, d), []) (rrn_of ((rmk_path HM4.out)) HIC.out ⟨rfl, by simp⟩)) (rrn_of ((rmk_path HM4.out).ext gStp (ext_alloc (ext_refl _) _)) HIC.out ⟨rfl, by simp⟩) (fun j hj _ => ⟨(show w.heap.size ≤ j by omega), fun e => by have := (HOL.out j e.symm).2; omega⟩) (by simp only [maxLen, List.length_nil]; omega) (by simp only [List.length_nil]; omega) (by simp; omega) ?_; intro v9 w9 hown9 hg9 hat9; obtain ⟨a9, n9, c9, rfl⟩ := osl_slice hown9)))
        obtain ⟨g9, px, dx, sx, apx, cpx, ea9, hb9, hs9, ex9, hsx, ix9, hpx, v0', v1', v2', vf'⟩ := orun_at hown9 (i := 0) (by simp)
        subst ea9
        obtain rfl : n9 = 1 := (osl_len hown9).1
        have hxe : ((p, d), []) = ((px, dx), sx.data.toList) := by simpa using ex9
        have hsx0 : sx.data.toList = [] := tx_nil hxe
        have hsxs : sx.size = 0 := by have h7 : sx.data.toList.length = 0 := (by rw [hsx0]; rfl); simpa using h7
        simp only [Nat.zero_mul, Nat.zero_add] at v0' v1' v2' vf'
        have hx9 : Ext w w9 := ext_grow (ext_alloc (ext_trans HX.out (ext_trans hw3 hx4)) _) hg9 (fun j hj => (HOL.out j hj).1)
        have u0' := (World.cell?_of_block (a := ⟨wr.heap.size, 0, none⟩) (hg9.block wr.heap.size (by simp; omega) (fun e => by have := (HOL.out _ e.symm).2; omega))).trans (show _ = some (.slice ap p.length cp) by go_simp)
        have u1' := (World.cell?_of_block (a := ⟨wr.heap.size, 1, none⟩) (hg9.block wr.heap.size (by simp; omega) (fun e => by have := (HOL.out _ e.symm).2; omega))).trans (show _ = some (.int .i64 d) by go_simp)
        have u2' := (World.cell?_of_block (a := ⟨wr.heap.size, 2, none⟩) (hg9.block wr.heap.size (by simp; omega) (fun e => by have := (HOL.out _ e.symm).2; omega))).trans (show _ = some (.int .u8 s.toNat) by go_simp)
        have hng : ¬ g9 = wr.heap.size := by
          intro e
          rcases hat9 with h | h
          · have := (HOL.out g9 (h.symm.trans rfl)).2; omega
          · have h' : some g9 = some (w4.heap.size + 1) := by simpa [Value.ownBlock] using h
            injection h' with h'
            omega
        have hng' : ¬ wr.heap.size = g9 := fun e => hng e.symm
        have hsum : ¬ 9223372036854775807 < sx.size + eb.size := by omega
        have HX9 := Lib.hid hx9
        have HPT := Lib.hid (put_text hown9 (i := 0) (by simp) ex9 HEB.out (by omega))
        have HXE := Lib.hid hxe
        clear ex9 hg9 hown9 hat9 hpx hx9 hxe hsx0 hsxs
        refine wp_region_tail 11 fol (by kernel_rfl) (fun W hW => ?_)
        subst hW
        simp only [List.take_succ_cons, List.take_zero, List.drop_succ_cons, List.drop_zero]
        repeat (go_big_quiet_step (fail))
        refine wpQuiet_nil ?_
        go_wp2_with fail
        go_roundw
        case rel => exact ⟨k + 1, by omega, by go_num, Lib.hid (osl_ext gRn (osl_of_eq HPT.out (by rw [HS.out]; exact app_eq0 HXE.out)) (ext_drew (ext_refl _))), HRN, ext_drew (ext_set HX9.out (show w.heap.size ≤ g9 by omega) _)⟩
        case measure => simp [intOf]; omega
      · obtain ⟨n, hn⟩ : ∃ n, q.length = n + 1 := ⟨q.length - 1, by omega⟩
        obtain rfl : n5 = n + 1 := (osl_len HO.out).1.trans hn
        obtain ⟨g5, p5, d5, s5, ap5, cp5, e5, hb5, hs5, ex5, hsx5, ix5, hpx5, v0, v1, v2, vf⟩ := orun_at HO.out (i := n) (by omega)
        subst e5
        have hro := HR.out _ (List.mem_of_getElem? ex5)
        have hs560 : s5.size ≤ 60 := by simpa using hro.2.1
        have HJN := Lib.hid (fun (W : World) (hx : Ext wr W) => joins_any (rrn_of (hpx5.ext gStp hx) ix5 (rtx_s hsx5)) (HAT.out W hx) hro.1)
        have ex5' : q[q.length - 1]? = some ((p5, d5), s5.data.toList) := by rw [hn]; exact ex5
        have hg5 : ¬ g5 = wr.heap.size := by omega
        have hn3 : n ≤ 300 := by omega
        have hq300 : q.length ≤ 300 := by omega
        have hwn : wrap64 (n : Int) = (n : Int) := IntWalk.wrap64_in _ (by omega)
        have hwn1 : wrap64 ((n : Int) + 1) = (n : Int) + 1 := wrap_succ hn3
        have hnn : ¬ (n : Int) < 0 := Int.not_lt.2 (Int.natCast_nonneg n)
        have t0 : decide ((n : Int) < 0) = false := decide_eq_false hnn
        have t0b : decide (0 ≤ (n : Int)) = true := decide_eq_true (Int.natCast_nonneg n)
        have hg5' : ¬ wr.heap.size = g5 := by omega
        cases hjb : joinsB ((p5, d5), s5.data.toList) ((p, d), s) with
        | true =>
          rw [hjb] at HJN
          have HSJ := Lib.hid (HS.out.trans (runStep_join ex5' hjb))
          have hsum : ¬ 9223372036854775807 < s5.size + eb.size := by omega
          have HPT := Lib.hid (fun (W : World) (hx : Ext wr W) => put_text (osl_ext gRn HO.out hx) (i := n) (by omega) ex5 HEB.out hs560)
          have HN := Lib.hid hn
          clear ex5' ex5 hro hpx5 ix5 hsx5 hjb hq0 hn hql HS
          go_wp2_with fail
          refine wp_name (fun W2 eW2 => ?_)
          have e0 : W2.cell? ⟨wr.heap.size, 0, none⟩ = some (.slice ap p.length cp) := by rw [eW2]; go_simp
          have e1 : W2.cell? ⟨wr.heap.size, 1, none⟩ = some (.int .i64 d) := by rw [eW2]; go_simp
          have e2 : W2.cell? ⟨wr.heap.size, 2, none⟩ = some (.int .u8 s.toNat) := by rw [eW2]; go_simp
          have e3 : W2.cell? ⟨g5, n * 3, none⟩ = some (.slice ap5 p5.length cp5) := by rw [eW2]; go_simp
          have e4 : W2.cell? ⟨g5, n * 3 + 1, none⟩ = some (.int .i64 d5) := by rw [eW2]; go_simp
          have e5 : W2.cell? ⟨g5, n * 3 + 2, none⟩ = some (.string s5) := by rw [eW2]; go_simp
          have ef5 : W2.frozen? ⟨g5, n * 3 + 2, none⟩ = false := by rw [eW2]; go_simp
          have zW2_0 : wr.heap.size < W2.heap.size := by rw [eW2]; first | assumption | omega | (simp <;> omega)
          have zW2_1 : g5 < W2.heap.size := by rw [eW2]; first | assumption | omega | (simp <;> omega)
          have hw2 : Ext wr W2 := by rw [eW2]; exact extA
          clear eW2
          refine wp_region_later fol (by kernel_rfl) (fun hlater => ?_)
          repeat (go_big_quiet_step ((first
              | (go_at_call 93; (with_reducible exact later_of (HJN.out _ (ext_trans hw2 (Later.ext _))))))))
          refine wpQuiet_nil ?_
          rintro w3 ⟨⟨w3x, hx3⟩, rfl⟩
          clear hlater
          have fz0 := (hx3.cells wr.heap.size 0 (by omega)).trans e0
          have fz1 := (hx3.cells wr.heap.size 1 (by omega)).trans e1
          have fz2 := (hx3.cells wr.heap.size 2 (by omega)).trans e2
          have fy0 := (hx3.cells g5 (n * 3) (by omega)).trans e3
          have fy1 := (hx3.cells g5 (n * 3 + 1) (by omega)).trans e4
          have fy2 := (hx3.cells g5 (n * 3 + 2) (by omega)).trans e5
          have fyf := (hx3.frz g5 (n * 3 + 2) (by omega)).trans ef5
          have hz3 := hx3.size
          have hw3 : Ext wr w3 := ext_trans hw2 hx3
          have hb3 : wr.heap.size < w3.heap.size := by omega
          have hg3 : g5 < w3.heap.size := by omega
          go_wp2_with fail
          refine wp_region_tail 11 fol (by kernel_rfl) (fun W hW => ?_)
          subst hW
          simp only [List.take_succ_cons, List.take_zero, List.drop_succ_cons, List.drop_zero]
          repeat (go_big_quiet_step (fail))
          refine wpQuiet_nil ?_
          go_wp2_with fail
          go_roundw
          case rel => exact ⟨k + 1, by omega, by go_num, Lib.hid (osl_ext gRn (osl_of_eq (HPT.out _ hw3) (by rw [HSJ.out, HN.out]; rfl)) (ext_drew (ext_refl _))), HRN, ext_drew (ext_set (ext_trans HX.out hw3) (by simp <;> omega) _)⟩
          case measure => simp [intOf]; omega
        | false =>
          rw [hjb] at HJN
          have HSJ := Lib.hid (HS.out.trans (runStep_new ex5' hjb))
          have HN := Lib.hid hn
          clear ex5' ex5 hro hpx5 ix5 hsx5 hjb hq0 hql HS
          go_wp2_with fail
          refine wp_name (fun W2 eW2 => ?_)
          have e0 : W2.cell? ⟨wr.heap.size, 0, none⟩ = some (.slice ap p.length cp) := by rw [eW2]; go_simp
          have e1 : W2.cell? ⟨wr.heap.size, 1, none⟩ = some (.int .i64 d) := by rw [eW2]; go_simp
          have e2 : W2.cell? ⟨wr.heap.size, 2, none⟩ = some (.int .u8 s.toNat) := by rw [eW2]; go_simp
          have e3 : W2.cell? ⟨g5, n * 3, none⟩ = some (.slice ap5 p5.length cp5) := by rw [eW2]; go_simp
          have e4 : W2.cell? ⟨g5, n * 3 + 1, none⟩ = some (.int .i64 d5) := by rw [eW2]; go_simp
          have e5 : W2.cell? ⟨g5, n * 3 + 2, none⟩ = some (.string s5) := by rw [eW2]; go_simp
          have ef5 : W2.frozen? ⟨g5, n * 3 + 2, none⟩ = false := by rw [eW2]; go_simp
          have zW2_0 : wr.heap.size < W2.heap.size := by rw [eW2]; first | assumption | omega | (simp <;> omega)
          have zW2_1 : g5 < W2.heap.size := by rw [eW2]; first | assumption | omega | (simp <;> omega)
          have hw2 : Ext wr W2 := by rw [eW2]; exact extA
          clear eW2
          refine wp_region_later fol (by kernel_rfl) (fun hlater => ?_)
          repeat (go_big_quiet_step ((first
              | (go_at_call 93; (with_reducible exact later_of (HJN.out _ (ext_trans hw2 (Later.ext _))))))))
          refine wpQuiet_nil ?_
          rintro w3 ⟨⟨w3x, hx3⟩, rfl⟩
          clear hlater
          have fz0 := (hx3.cells wr.heap.size 0 (by omega)).trans e0
          have fz1 := (hx3.cells wr.heap.size 1 (by omega)).trans e1
          have fz2 := (hx3.cells wr.heap.size 2 (by omega)).trans e2
          have fy0 := (hx3.cells g5 (n * 3) (by omega)).trans e3
          have fy1 := (hx3.cells g5 (n * 3 + 1) (by omega)).trans e4
          have fy2 := (hx3.cells g5 (n * 3 + 2) (by omega)).trans e5
          have fyf := (hx3.frz g5 (n * 3 + 2) (by omega)).trans ef5
          have hz3 := hx3.size
          have hw3 : Ext wr w3 := ext_trans hw2 hx3
          have hb3 : wr.heap.size < w3.heap.size := by omega
          have hg3 : g5 < w3.heap.size := by omega
          go_wp2_with (first
            | (go_at_call 73; go_must ((with_reducible refine (HOW.out _ (ext_trans hw3 extA)).mono ?_); rintro e w4 ⟨cs4, rfl, hm4, hx4⟩; have HM4 := Lib.hid (omk_mk hm4); obtain ⟨v4, rfl, hv4, _⟩ := hm4; obtain ⟨a4, n4, c4, rfl⟩ := osl_slice hv4; have hz4 := hx4.size; have m0 := (hx4.cells (wr.heap.size) (0) (by first | omega | (simp <;> omega))).trans (show _ = some (.slice ap p.length cp) by first | assumption | go_simp); have m1 := (hx4.cells (wr.heap.size) (1) (by first | omega | (simp <;> omega))).trans (show _ = some (.int .i64 d) by first | assumption | go_simp); have m2 := (hx4.cells (wr.heap.size) (2) (by first | omega | (simp <;> omega))).trans (show _ = some (.int .u8 s.toNat) by first | assumption | go_simp); have hb4 : wr.heap.size < w4.heap.size := (by omega); clear hv4))
            | (at_builtin; go_must (refine wpList_app1 gRn rfl (.tmp 27) (.tmp 32) 49 rfl w.heap.size 61 i0 _ 3 48 Tryz.underlying49 HJ.out HZ0.out HZ1.out HZ2.out rfl (by omega) (F := fun j => w.heap.size ≤ j) (G := fun j => w3.heap.size ≤ j) (.slice (some ⟨g5, 0, none⟩) (n + 1) c5) q rfl (osl_ext gRn HO.out (ext_trans hw3 extA)) w4.heap.size 0 1 [.slice a4 n4 c4, .int .i64 d, .string ⟨#[]⟩] ((p, d), []) rfl rfl (rangeAt3 (by go_simp) (by go_simp) (by go_simp)) (one_rn _ w4 _ ((p, d), []) (rrn_of ((rmk_path HM4.out)) HIC.out ⟨rfl, by simp⟩)) (rrn_of ((rmk_path HM4.out).ext gStp (ext_alloc (ext_refl _) _)) HIC.out ⟨rfl, by simp⟩) (fun j hj _ => ⟨(show w.heap.size ≤ j by omega), fun e => by have := (HOL.out j e.symm).2; omega⟩) (len63 hq300) (lenby hq300) (by simp; omega) ?_; intro v9 w9 hown9 hg9 hat9; obtain ⟨a9, n9, c9, rfl⟩ := osl_slice hown9)))
          obtain ⟨g9, px, dx, sx, apx, cpx, ea9, hb9, hs9, ex9, hsx, ix9, hpx, v0', v1', v2', vf'⟩ := orun_at hown9 (i := n + 1) (by rw [List.length_append, HN.out]; exact Nat.lt_succ_self _)
          subst ea9
          obtain rfl : n9 = n + 1 + 1 := by have := (osl_len hown9).1; simpa [HN.out] using this
          have hxe : ((p, d), []) = ((px, dx), sx.data.toList) := by have h8 := ex9; rw [← HN.out] at h8; simpa using h8
          have hsx0 : sx.data.toList = [] := tx_nil hxe
          have hsxs : sx.size = 0 := by have h7 : sx.data.toList.length = 0 := (by rw [hsx0]; rfl); simpa using h7
          have hx9 : Ext w w9 := ext_grow (ext_alloc (ext_trans HX.out (ext_trans hw3 hx4)) _) hg9 (fun j hj => (HOL.out j hj).1)
          have u0' := (World.cell?_of_block (a := ⟨wr.heap.size, 0, none⟩) (hg9.block wr.heap.size (by simp; omega) (fun e => by have := (HOL.out _ e.symm).2; omega))).trans (show _ = some (.slice ap p.length cp) by go_simp)
          have u1' := (World.cell?_of_block (a := ⟨wr.heap.size, 1, none⟩) (hg9.block wr.heap.size (by simp; omega) (fun e => by have := (HOL.out _ e.symm).2; omega))).trans (show _ = some (.int .i64 d) by go_simp)
          have u2' := (World.cell?_of_block (a := ⟨wr.heap.size, 2, none⟩) (hg9.block wr.heap.size (by simp; omega) (fun e => by have := (HOL.out _ e.symm).2; omega))).trans (show _ = some (.int .u8 s.toNat) by go_simp)
          have hng : ¬ g9 = wr.heap.size := by
            intro e
            rcases hat9 with h | h
            · have := (HOL.out g9 (h.symm.trans rfl)).2; omega
            · have h' : some g9 = some (w4.heap.size + 1) := by simpa [Value.ownBlock] using h
              injection h' with h'
              omega
          have hng' : ¬ wr.heap.size = g9 := fun e => hng e.symm
          have hsum : ¬ 9223372036854775807 < sx.size + eb.size := by omega
          have HX9 := Lib.hid hx9
          have HPT := Lib.hid (put_text hown9 (i := n + 1) (by rw [List.length_append, HN.out]; exact Nat.lt_succ_self _) ex9 HEB.out (by omega))
          have HXE := Lib.hid hxe
          clear ex9 hg9 hown9 hat9 hpx hx9 hxe hsx0 hsxs
          obtain ⟨n', hn'⟩ : ∃ n' : Nat, n' = n + 1 := ⟨_, rfl⟩
          have hwq : wrap64 ((n : Int) + 1) = (n' : Int) := by rw [hn']; exact wrap_succ hn3
          have HNQ := Lib.hid (show n' = q.length from hn'.trans HN.out.symm)
          rw [hwq]
          simp only [← hn'] at v0' v1' v2' vf' HPT ⊢
          have t0' : decide ((n' : Int) < 0) = false := decide_eq_false (Int.not_lt.2 (Int.natCast_nonneg _))
          have t0c : decide (0 ≤ (n' : Int)) = true := decide_eq_true (Int.natCast_nonneg _)
          have nn0 : (0 : Int) ≤ (n' : Int) := Int.natCast_nonneg _
          have nn1 : (n' : Int) < (n' : Int) + 1 := Int.lt_succ _
          clear hn' hwq hwn hwn1 hnn t0 t0b
          refine wp_region_tail 11 fol (by kernel_rfl) (fun W hW => ?_)
          subst hW
          simp only [List.take_succ_cons, List.take_zero, List.drop_succ_cons, List.drop_zero]
          repeat (go_big_quiet_step (fail))
          refine wpQuiet_nil ?_
          go_wp2_with fail
          go_roundw
          case rel => exact ⟨k + 1, by omega, by go_num, Lib.hid (osl_ext gRn (osl_of_eq HPT.out (by rw [HSJ.out, HNQ.out]; exact app_eq HXE.out)) (ext_drew (ext_refl _))), HRN, ext_drew (ext_set HX9.out (show w.heap.size ≤ g9 by omega) _)⟩
          case measure => simp [intOf]; omega
    · have hkl : k = l.length := by omega
      subst hkl
      have HF := Lib.hid (show OSl RRn 3 61 w.heap.size (fun j => w.heap.size ≤ j) wr (.slice a5 n5 c5) (runsA l) by have := HO.out; rwa [List.take_of_length_le (Nat.le_refl _)] at this)
      go_wp2
      go_ret
      exact ⟨_, rfl, osl_rsl gRn HF.out (fun j hj _ => hj) (fun j hj => hj), HX.out⟩
end Go.Proofs.YtfgfdohppgoajaaGreat
/- The gap below a path. -/
namespace Go.Proofs.YtfgfdohppgoajaaGreat
open Go Go.RowKit Cp

set_option maxRecDepth 100000 in
set_option maxHeartbeats 800000 in
theorem below_any {F : Nat → Prop} {w : World} {v : Value} {l : List Stp} {k0 : Nat} {site : Int} (h : RSl RStp 2 F w v l) (hk0 : k0 < l.length) (hok : ∀ s ∈ l, 0 ≤ s.1 ∧ s.1 ≤ 200) (hl : lastDigit l ≠ 0) (hsz : l.length ≤ 10000) (hsi : I64 site) :
    Calls Tryz.prog 127 #[v, .int .i64 k0, .int .i64 site] w (IsGap (fun k => F k ∧ k < w.heap.size) (belowL site (l.take k0) (l.drop k0)) w) := by
  obtain ⟨a1, n1, c1, rfl⟩ := h.slice
  obtain ⟨rfl, k1, k1'⟩ := h.len
  unfold maxLen at k1'
  have q1 : l.length ≤ 9223372036854775807 := by omega
  have q2 : c1 ≤ 9223372036854775807 := by omega
  have q3 : k0 ≤ 9223372036854775807 := by omega
  clear k1'
  have HL := Lib.hid h
  have HOK := Lib.hid hok
  have HLD := Lib.hid hl
  have HSI := Lib.hid hsi
  clear h hok hl hsi
  obtain ⟨i0, hi, hz0, hz1, hz2⟩ := info_parts info_step
  have HI := Lib.hid hi
  have HZ0 := Lib.hid hz0
  have HZ1 := Lib.hid hz1
  have HZ2 := Lib.hid hz2
  clear hi hz0 hz1 hz2
  go_enter Tryz.func127, Tryz.ntmps127
  go_wp2
  go_loopw [7] (fun i wr => ∃ k : Nat, k < l.length ∧ i = .int .i64 k ∧ Hid (belowL site (l.take k0) (l.drop k0) = belowL site (l.take k) (l.drop k)) ∧ Ext (w.alloc (.cells #[.slice none 0 0, .int .i64 0, .int .i64 0] 133)) wr) (fun i _ => l.length - (intOf i).toNat)
  case atStart => exact ⟨k0, by omega, rfl, Lib.hid rfl, ext_refl _⟩
  case round =>
    obtain ⟨k, h1, rfl, ho, hx⟩ := hrel
    have HW := Lib.hid (ext_trans (ext_alloc (ext_refl _) _) hx)
    have r0 := (hx.cells w.heap.size 0 (by simp <;> omega)).trans (show _ = some (.slice none 0 0) by go_simp)
    have r1 := (hx.cells w.heap.size 1 (by simp <;> omega)).trans (show _ = some (.int .i64 0) by go_simp)
    have r2 := (hx.cells w.heap.size 2 (by simp <;> omega)).trans (show _ = some (.int .i64 0) by go_simp)
    have f0 := (hx.frz w.heap.size 0 (by simp <;> omega)).trans (show _ = false by go_simp)
    have f1 := (hx.frz w.heap.size 1 (by simp <;> omega)).trans (show _ = false by go_simp)
    have f2 := (hx.frz w.heap.size 2 (by simp <;> omega)).trans (show _ = false by go_simp)
    have HX := Lib.hid hx
    have hsw := hx.size
    simp at hsw
    clear hx
    obtain ⟨b1, o1, x1, y1, rfl, hb1, e1, _, _, ca, cb⟩ := stp_at (RSl.ext gStp HL.out HW.out) h1
    have HA := Lib.hid (below_drop (site := site) e1)
    obtain ⟨d1, d2⟩ := HOK.out _ (List.mem_of_getElem? e1)
    simp only at d1 d2
    have hlast : x1 = 0 → k + 1 < l.length := fun hz => by
      apply Classical.byContradiction
      intro hc
      have : k = l.length - 1 := by omega
      subst this
      exact HLD.out ((lastDigit_at e1).trans hz)
    have HLA := Lib.hid hlast
    clear e1 hb1 hlast
    have kc : k ≤ c1 := by omega
    by_cases h2 : 1 < x1
    · have HG := Lib.hid (show belowL site (l.take k0) (l.drop k0) = ⟨l.take k, 1, x1 - 1⟩ by rw [ho.out, HA.out, if_pos h2])
      go_wp2
      refine bodyPost_ret (v := .agg #[.slice (some ⟨b1, o1, none⟩) k c1, .int .i64 1, .int .i64 (x1 - 1)]) (by simp [results, Tryz.results127, go_sem, r0, r1, r2]) rfl ⟨.slice (some ⟨b1, o1, none⟩) k c1, by rw [HG.out], ?_, (by repeat (first | (with_reducible exact ext_refl _) | (with_reducible refine ext_drew ?_) | (with_reducible refine ext_drewN ?_ _) | (with_reducible refine ext_alloc ?_ _) | (with_reducible refine ext_set ?_ (by first | omega | (simp <;> omega)) _) | (with_reducible refine ext_call ?_ HW.out)))⟩
      rw [HG.out]
      exact rsl_tkW ((RSl.anyF HL.out).ext gStp (by repeat (first | (with_reducible exact ext_refl _) | (with_reducible refine ext_drew ?_) | (with_reducible refine ext_drewN ?_ _) | (with_reducible refine ext_alloc ?_ _) | (with_reducible refine ext_set ?_ (by first | omega | (simp <;> omega)) _) | (with_reducible refine ext_call ?_ HW.out)))) (by omega)
    by_cases h3 : x1 = 1
    · have t1 : (x1 == 1) = true := by rw [beq_iff_eq]; exact h3
      have HG := Lib.hid (show belowL site (l.take k0) (l.drop k0) = ⟨l.take k ++ [(0, site)], 1, 200⟩ by rw [ho.out, HA.out, if_neg h2, if_pos h3])
      have HCL := Lib.hid (cloneSteps_any (rsl_tkW (HL.out.ext gStp HW.out) (k := k) (by omega)) (by rw [List.length_take]; omega))
      clear h3
      go_wp2_with (first
        | (go_at_call 92; ((with_reducible refine HCL.out.mono ?_); rintro e w1 ⟨v1, rfl, hv1, hx1⟩; obtain ⟨a3, n3, c3, rfl⟩ := osl_slice hv1; have HV1 := Lib.hid hv1; have hs1 := hx1.size; have HX1 := Lib.hid hx1; clear hv1 hx1))
        | (at_builtin; go_must (refine wpList_app1 gStp rfl (.tmp 32) (.tmp 35) 45 rfl wr.heap.size 112 i0 _ 2 16 Tryz.underlying45 HI.out HZ0.out HZ1.out HZ2.out rfl (by omega) (F := fun _ => True) (G := fun _ => False) _ (l.take k) rfl (osl_ext gStp HV1.out (ext_alloc (ext_refl _) _)) w1.heap.size 0 1 [.int .i64 0, .int .i64 site] (0, site) rfl rfl (rangeAt2 (by go_simp) (by go_simp)) (one_stp (fun _ => True) w1 _ (0, site) ⟨rfl, i64_small (by simp) (by simp), HSI.out⟩) ⟨rfl, i64_small (by simp) (by simp), HSI.out⟩ (fun _ hk _ => hk.elim) (by rw [List.length_take]; simp only [maxLen]; omega) (by rw [List.length_take]; omega) (by simp <;> omega) ?_; intro v2 w2 hown2 hg2 hat2; obtain ⟨a4, n4, c4, rfl⟩ := osl_slice hown2; have hx2 : Ext (w.alloc (.cells #[.slice none 0 0, .int .i64 0, .int .i64 0] 133)) w2 := ext_grow (by repeat (first | (with_reducible exact ext_refl _) | (with_reducible refine ext_drew ?_) | (with_reducible refine ext_drewN ?_ _) | (with_reducible refine ext_alloc ?_ _) | (with_reducible refine ext_set ?_ (by first | omega | (simp <;> omega)) _) | (with_reducible refine ext_call ?_ HX1.out) | (with_reducible refine ext_call ?_ HX.out))) hg2 (fun k hk => by have := (osl_lt HV1.out k hk).1; simp <;> omega); have HV2 := Lib.hid hown2; clear hown2 hg2 hat2 r0 r1 r2 f0 f1 f2; have r0 := (hx2.cells w.heap.size 0 (by simp <;> omega)).trans (show _ = some (.slice none 0 0) by go_simp); have r1 := (hx2.cells w.heap.size 1 (by simp <;> omega)).trans (show _ = some (.int .i64 0) by go_simp); have r2 := (hx2.cells w.heap.size 2 (by simp <;> omega)).trans (show _ = some (.int .i64 0) by go_simp); have f0 := (hx2.frz w.heap.size 0 (by simp <;> omega)).trans (show _ = false by go_simp); have f1 := (hx2.frz w.heap.size 1 (by simp <;> omega)).trans (show _ = false by go_simp); have f2 := (hx2.frz w.heap.size 2 (by simp <;> omega)).trans (show _ = false by go_simp); have HX2 := Lib.hid hx2; clear hx2)))
      refine bodyPost_ret (v := .agg #[.slice a4 n4 c4, .int .i64 1, .int .i64 200]) (by simp [results, Tryz.results127, go_sem, r0, r1, r2]) rfl ⟨.slice a4 n4 c4, by rw [HG.out], ?_, (by repeat (first | (with_reducible exact ext_refl _) | (with_reducible refine ext_drew ?_) | (with_reducible refine ext_drewN ?_ _) | (with_reducible refine ext_alloc ?_ _) | (with_reducible refine ext_set ?_ (by first | omega | (simp <;> omega)) _) | (with_reducible refine ext_call ?_ HX2.out)))⟩
      rw [HG.out]
      exact RSl.more gStp (fun k hk _ => .inr (Nat.le_of_lt hk)) (RSl.keep gStp (F := fun k => w.heap.size < k) (by repeat (first | (with_reducible exact keeps_refl) | (with_reducible refine keeps_drew ?_) | (with_reducible refine keeps_alloc ?_ _) | (with_reducible refine keeps_set ?_ (by first | omega | (simp <;> omega)) _))) (osl_rsl gStp (osl_any leaf_stp (G := fun k => w.heap.size < k) HV2.out) (fun k hk _ => hk) (fun k hk => by omega)))
    · have t1 : (x1 == 1) = false := by rw [beq_eq_false_iff_ne]; exact h3
      have HG := Lib.hid (show belowL site (l.take k0) (l.drop k0) = belowL site (l.take (k + 1)) (l.drop (k + 1)) by rw [ho.out, HA.out, if_neg h2, if_neg h3])
      have hz : x1 = 0 := by omega
      have hk1 := HLA.out hz
      clear h3 hz
      go_wp2
      go_roundw
      case rel => exact ⟨k + 1, by omega, by go_num, HG, HX.out⟩
      case measure => simp [intOf]; omega
end Go.Proofs.YtfgfdohppgoajaaGreat
/- Are two paths one? · The gap between two paths. -/
namespace Go.Proofs.YtfgfdohppgoajaaGreat
open Go Go.RowKit Cp

/-- are two steps one? -/
def eqS (s t : Stp) : Bool := decide (s = t)
theorem hS_stp : Tryz.prog.underlying 112 = some (.struct (Tryz.prog.fieldsOf 112)) := by kernel_rfl
theorem hp_stp : Tryz.prog.stoodInHeld 112 = false := by kernel_rfl
theorem hg_stp : Tryz.prog.eqGuardType Tryz.prog.depth 112 = false := by kernel_rfl
theorem in_stp (x1 y1 x2 y2 : Int) (w : World) : (Op.equalIn 10000 112 (.agg #[.int .i64 x1, .int .i64 y1]) (.agg #[.int .i64 x2, .int .i64 y2])).run Tryz.prog w = .ok (eqS (x1, y1) (x2, y2)) w := by
  have u3 := Tryz.underlying3
  have a3 := Tryz.isAgg3
  have z3 := Tryz.sizeOf3
  rw [show (10000 : Nat) = 9999 + 1 from rfl, run_equalIn_agg w 9999 112 _ _ hS_stp hp_stp]
  simp only [Program.fieldsOf, Tryz.underlying112]
  go_simp
  by_cases h1 : x1 = x2 <;> by_cases h2 : y1 = y2 <;> simp [h1, h2, eqS]
theorem eql_stp (x1 y1 x2 y2 : Int) (w : World) : (binOp .eql 112 (.agg #[.int .i64 x1, .int .i64 y1]) (.agg #[.int .i64 x2, .int .i64 y2])).run Tryz.prog w = .ok (.bool (eqS (x1, y1) (x2, y2))) w := by
  rw [run_eql_struct, in_stp]; rfl
theorem neq_stp (x1 y1 x2 y2 : Int) (w : World) : (binOp .neq 112 (.agg #[.int .i64 x1, .int .i64 y1]) (.agg #[.int .i64 x2, .int .i64 y2])).run Tryz.prog w = .ok (.bool (!eqS (x1, y1) (x2, y2))) w := by
  rw [run_neq_struct, in_stp]; rfl
theorem eqPath_step {l m : List Stp} {k : Nat} {s t : Stp} (h1 : l[k]? = some s) (h2 : m[k]? = some t) : decide (l.drop k = m.drop k) = (eqS s t && decide (l.drop (k + 1) = m.drop (k + 1))) := by
  obtain ⟨a1, b1⟩ := List.getElem?_eq_some_iff.1 h1
  obtain ⟨a2, b2⟩ := List.getElem?_eq_some_iff.1 h2
  rw [List.drop_eq_getElem_cons a1, List.drop_eq_getElem_cons a2, b1, b2]
  simp [Bool.decide_and, eqS]

set_option maxRecDepth 100000 in
set_option maxHeartbeats 800000 in
theorem equalPaths_any {F G : Nat → Prop} {w : World} {v u : Value} {l m : List Stp} (hl : RSl RStp 2 F w v l) (hm : RSl RStp 2 G w u m) :
    Calls Tryz.prog 125 #[v, u] w fun e w' => e = .returned (.bool (decide (l = m))) ∧ Ext w w' := by
  obtain ⟨a1, n1, c1, rfl⟩ := hl.slice
  obtain ⟨a2, n2, c2, rfl⟩ := hm.slice
  obtain ⟨rfl, k1, k1'⟩ := hl.len
  obtain ⟨rfl, k2, k2'⟩ := hm.len
  unfold maxLen at k1' k2'
  have q1 : l.length ≤ 9223372036854775807 := by omega
  have q2 : m.length ≤ 9223372036854775807 := by omega
  clear k1 k1' k2 k2'
  have HL := Lib.hid hl
  have HM := Lib.hid hm
  clear hl hm
  have hg := hg_stp
  have hneq := neq_stp
  by_cases hlen : l.length = m.length
  · have t0 : ((l.length : Int) != (m.length : Int)) = false := by rw [hlen]; simp
    have HLEN := Lib.hid hlen
    have hle : l.length ≤ m.length := by omega
    clear hlen
    go_enter Tryz.func125, Tryz.ntmps125
    go_wp2
    go_loopw [13] (fun i wr => ∃ k : Nat, k ≤ l.length ∧ i = .int .i64 k ∧ Hid (decide (l = m) = decide (l.drop k = m.drop k)) ∧ Ext w wr) (fun i _ => l.length - (intOf i).toNat)
    case atStart => exact ⟨0, by omega, rfl, Lib.hid (by simp), ext_refl _⟩
    case round =>
      obtain ⟨k, hk1, rfl, ho, hx⟩ := hrel
      have HX := Lib.hid hx
      clear hx
      by_cases h1 : k < l.length
      · have h2 : k < m.length := by omega
        obtain ⟨b1, o1, x1, y1, rfl, hb1, e1, _, _, ca, cb⟩ := stp_at (HL.out.ext gStp HX.out) h1
        obtain ⟨b2, o2, x2, y2, rfl, hb2, e2, _, _, cc, cd⟩ := stp_at (HM.out.ext gStp HX.out) h2
        have HA := Lib.hid (eqPath_step e1 e2)
        clear e1 e2 hb1 hb2
        cases t1 : eqS (x1, y1) (x2, y2) with
        | true =>
          have HB := Lib.hid (show decide (l = m) = decide (l.drop (k + 1) = m.drop (k + 1)) by rw [ho.out, HA.out, t1, Bool.true_and])
          go_wp2
          go_quiet (fail)
          go_wp2
          go_roundw
          case rel => exact ⟨k + 1, by omega, by go_num, HB, ext_drewN HX.out _⟩
          case measure => simp [intOf]; omega
        | false =>
          have HB := Lib.hid (show decide (l = m) = false by rw [ho.out, HA.out, t1, Bool.false_and])
          go_wp2
          go_quiet (fail)
          go_wp2
          go_ret
          exact ⟨rb HB.out.symm, ext_drewN HX.out _⟩
      · have HB := Lib.hid (show decide (l = m) = true by
          rw [ho.out, List.drop_eq_nil_of_le (by omega), List.drop_eq_nil_of_le (by have := HLEN.out; omega)]; simp)
        go_wp2
        go_ret
        exact ⟨rb HB.out.symm, HX.out⟩
  · have t0 : ((l.length : Int) != (m.length : Int)) = true := by rw [bne_iff_ne]; omega
    have HB := Lib.hid (show decide (l = m) = false from decide_eq_false (fun e => hlen (by rw [e])))
    clear hlen
    go_enter Tryz.func125, Tryz.ntmps125
    go_wp2
    go_ret
    exact ⟨rb HB.out.symm, ext_refl _⟩
end Go.Proofs.YtfgfdohppgoajaaGreat
/- The gap between two paths. -/
namespace Go.Proofs.YtfgfdohppgoajaaGreat
open Go Go.RowKit Cp

theorem find_nil (site : Int) (pre b : List Stp) : findL site pre [] b = belowL site pre b := by cases b <;> rfl
theorem find_step {site : Int} {a b : List Stp} {k : Nat} {s t : Stp} (h1 : a[k]? = some s) (h2 : b[k]? = some t) :
    findL site (a.take k) (a.drop k) (b.drop k) = if s = t then findL site (a.take (k + 1)) (a.drop (k + 1)) (b.drop (k + 1)) else if 1 < t.1 - s.1 then ⟨a.take k, s.1 + 1, t.1 - 1⟩ else aboveL (a.take (k + 1)) (a.drop (k + 1)) := by
  obtain ⟨a1, b1⟩ := List.getElem?_eq_some_iff.1 h1
  obtain ⟨a2, b2⟩ := List.getElem?_eq_some_iff.1 h2
  rw [List.drop_eq_getElem_cons a1, List.drop_eq_getElem_cons a2, List.take_succ_eq_append_getElem a1, b1, b2]; rfl
theorem take_next {a b : List Stp} {k : Nat} {s t : Stp} (h1 : a[k]? = some s) (h2 : b[k]? = some t) (he : s = t) (h : a.take k = b.take k) : a.take (k + 1) = b.take (k + 1) := by
  obtain ⟨a1, b1⟩ := List.getElem?_eq_some_iff.1 h1
  obtain ⟨a2, b2⟩ := List.getElem?_eq_some_iff.1 h2
  rw [List.take_succ_eq_append_getElem a1, List.take_succ_eq_append_getElem a2, b1, b2, h, he]
theorem ord_left {a b : List Stp} {k : Nat} (h : ordP (a.drop k) (b.drop k) = -1) (_hk : k ≤ a.length) : k < b.length := by
  apply Classical.byContradiction
  intro hc
  rw [List.drop_eq_nil_of_le (show b.length ≤ k by omega)] at h
  cases hd : a.drop k with
  | nil => rw [hd] at h; simp [ordP] at h
  | cons x y => rw [hd] at h; simp [ordP] at h

theorem gap_fin {w W w1 w' : World} {v : Value} {l : List Stp} (h : RSl RStp 2 (fun k => (k < w.heap.size ∧ k < W.heap.size) ∨ W.heap.size ≤ k) w1 v l) (hk : Keeps (fun k => k ≠ w.heap.size) w1 w') (hs : w.heap.size < W.heap.size) :
    RSl RStp 2 (fun k => k < w.heap.size ∨ w.heap.size ≤ k) w' v l :=
  RSl.more gStp (fun k _ _ => by omega) (RSl.keep gStp hk (RSl.more gStp (G := fun k => k ≠ w.heap.size) (fun k hk _ => by omega) h))

set_option maxRecDepth 100000 in
set_option maxHeartbeats 1600000 in
theorem find_any {F G : Nat → Prop} {w : World} {v u : Value} {a b : List Stp} {site : Int} (ha : RSl RStp 2 F w v a) (hb : RSl RStp 2 G w u b)
    (hoa : ∀ s ∈ a, 0 ≤ s.1 ∧ s.1 ≤ 200) (hob : ∀ s ∈ b, 0 ≤ s.1 ∧ s.1 ≤ 200) (hlb : b ≠ [] → lastDigit b ≠ 0) (ho : b ≠ [] → ordP a b = -1) (hsz : b.length ≤ 10000) (hsi : I64 site) :
    Calls Tryz.prog 91 #[v, u, .int .i64 site] w (IsGap (fun k => k < w.heap.size) (findG a b site) w) := by
  have HAB := Lib.hid (fun (W : World) (hx : Ext w W) (k0 : Nat) (hk : k0 ≤ a.length) => above_any (F := fun k => k < w.heap.size) ((ha.more gStp (fun _ _ h => h)).ext gStp hx) hk hoa)
  have HBL := Lib.hid (fun (hne : b ≠ []) (W : World) (hx : Ext w W) (k0 : Nat) (hk : k0 < b.length) => below_any (F := fun k => k < w.heap.size) (site := site) ((hb.more gStp (fun _ _ h => h)).ext gStp hx) hk hob (hlb hne) hsz hsi)
  obtain ⟨a1, n1, c1, rfl⟩ := ha.slice
  obtain ⟨a2, n2, c2, rfl⟩ := hb.slice
  obtain ⟨rfl, k1, k1'⟩ := ha.len
  obtain ⟨rfl, k2, k2'⟩ := hb.len
  unfold maxLen at k1' k2'
  have q1 : a.length ≤ 9223372036854775807 := by omega
  have q2 : b.length ≤ 9223372036854775807 := by omega
  have q3 : c1 ≤ 9223372036854775807 := by omega
  have q4 : c2 ≤ 9223372036854775807 := by omega
  clear k1' k2'
  have HA := Lib.hid ha
  have HB := Lib.hid hb
  have HOA := Lib.hid hoa
  have HOB := Lib.hid hob
  have HO := Lib.hid ho
  clear ha hb hoa hob ho hlb hsi
  have hg := hg_stp
  have heql := eql_stp
  by_cases h0 : b.length = 0
  · have t0 : ((b.length : Int) == 0) = true := by rw [beq_iff_eq]; omega
    have hbn : b = [] := by simpa using h0
    have HG := Lib.hid (show findG a b site = aboveL (a.take 0) (a.drop 0) by unfold findG; rw [if_pos hbn]; rfl)
    clear h0 hbn
    go_enter Tryz.func91, Tryz.ntmps91
    have HCA : Hid (∀ W, Ext w W → Calls Tryz.prog 126 #[.slice a1 a.length c1, .int .i64 0] W (IsGap (fun k => k < w.heap.size ∧ k < W.heap.size) (aboveL (a.take 0) (a.drop 0)) W)) := fun W hx => HAB.out W hx 0 (Nat.zero_le _)
    go_wp2_with (go_at_call 126; ((with_reducible refine (HCA.out _ (ext_alloc (ext_refl _) _)).mono ?_); rintro e w1 ⟨v1, rfl, hv1, hx1⟩; obtain ⟨a3, n3, c3, rfl⟩ := hv1.slice; have HV1 := Lib.hid hv1; have hx2 := ext_call (ext_refl _) hx1; clear hv1; (try clear r0 r1 r2 f0 f1 f2); have r0 := (hx2.cells w.heap.size 0 (by simp <;> omega)).trans (show _ = some (.slice none 0 0) by go_simp); have r1 := (hx2.cells w.heap.size 1 (by simp <;> omega)).trans (show _ = some (.int .i64 0) by go_simp); have r2 := (hx2.cells w.heap.size 2 (by simp <;> omega)).trans (show _ = some (.int .i64 0) by go_simp); have f0 := (hx2.frz w.heap.size 0 (by simp <;> omega)).trans (show _ = false by go_simp); have f1 := (hx2.frz w.heap.size 1 (by simp <;> omega)).trans (show _ = false by go_simp); have f2 := (hx2.frz w.heap.size 2 (by simp <;> omega)).trans (show _ = false by go_simp); have HX2 := Lib.hid hx2; clear hx2 hx1))
    refine bodyPost_ret (v := .agg #[.slice a3 n3 c3, .int .i64 (aboveL (a.take 0) (a.drop 0)).least, .int .i64 (aboveL (a.take 0) (a.drop 0)).most]) (by simp [results, Tryz.results91, go_sem, r0, r1, r2]) rfl ⟨.slice a3 n3 c3, by rw [HG.out], ?_, (by repeat (first | (with_reducible exact ext_refl _) | (with_reducible refine ext_drew ?_) | (with_reducible refine ext_drewN ?_ _) | (with_reducible refine ext_alloc ?_ _) | (with_reducible refine ext_set ?_ (by first | omega | (simp <;> omega)) _) | (with_reducible refine ext_call ?_ HX2.out)))⟩
    rw [HG.out]
    exact gap_fin HV1.out (keeps_set (keeps_set (keeps_set keeps_refl (fun _ h => h rfl) _) (fun _ h => h rfl) _) (fun _ h => h rfl) _) (by simp <;> omega)

  have t0 : ((b.length : Int) == 0) = false := by rw [beq_eq_false_iff_ne]; omega
  have hbn : b ≠ [] := fun e => h0 (by rw [e]; rfl)
  have HG0 := Lib.hid (show findG a b site = findL site (a.take 0) (a.drop 0) (b.drop 0) by unfold findG; rw [if_neg hbn]; rfl)
  have HORD := Lib.hid (HO.out hbn)
  have HBN := Lib.hid hbn
  clear h0 hbn
  go_enter Tryz.func91, Tryz.ntmps91
  go_wp2
  go_loopw [7] (fun i wr => ∃ k : Nat, k ≤ a.length ∧ k ≤ b.length ∧ i = .int .i64 k ∧ Hid (findG a b site = findL site (a.take k) (a.drop k) (b.drop k)) ∧ Hid (ordP (a.drop k) (b.drop k) = -1 ∧ a.take k = b.take k) ∧ Ext (w.alloc (.cells #[.slice none 0 0, .int .i64 0, .int .i64 0] 133)) wr) (fun i _ => a.length - (intOf i).toNat)
  case atStart => exact ⟨0, by omega, by omega, rfl, HG0, ⟨HORD.out, rfl⟩, ext_refl _⟩
  case round =>
    obtain ⟨k, hk1, hk2, rfl, ho, hord, hx⟩ := hrel
    have HW := Lib.hid (ext_trans (ext_alloc (ext_refl _) _) hx)
    have r0 := (hx.cells w.heap.size 0 (by simp <;> omega)).trans (show _ = some (.slice none 0 0) by go_simp)
    have r1 := (hx.cells w.heap.size 1 (by simp <;> omega)).trans (show _ = some (.int .i64 0) by go_simp)
    have r2 := (hx.cells w.heap.size 2 (by simp <;> omega)).trans (show _ = some (.int .i64 0) by go_simp)
    have f0 := (hx.frz w.heap.size 0 (by simp <;> omega)).trans (show _ = false by go_simp)
    have f1 := (hx.frz w.heap.size 1 (by simp <;> omega)).trans (show _ = false by go_simp)
    have f2 := (hx.frz w.heap.size 2 (by simp <;> omega)).trans (show _ = false by go_simp)
    have HX := Lib.hid hx
    have hsw := hx.size
    simp at hsw
    clear hx
    have hkb := ord_left hord.out.1 hk1
    by_cases h1 : k < a.length
    · obtain ⟨b1, o1, x1, y1, rfl, hb1, e1, _, _, ca, cb⟩ := stp_at (RSl.ext gStp HA.out HW.out) h1
      obtain ⟨b2, o2, x2, y2, rfl, hb2, e2, _, _, cc, cd⟩ := stp_at (RSl.ext gStp HB.out HW.out) hkb
      have HST := Lib.hid (find_step (site := site) e1 e2)
      have HOS := Lib.hid (ordP_drop_step e1 e2)
      have HTK := Lib.hid (fun (he : (x1, y1) = (x2, y2)) (h : a.take k = b.take k) => take_next e1 e2 he h)
      obtain ⟨d1, d2⟩ := HOA.out _ (List.mem_of_getElem? e1)
      obtain ⟨d3, d4⟩ := HOB.out _ (List.mem_of_getElem? e2)
      simp only at d1 d2 d3 d4
      clear e1 e2 hb1 hb2
      cases t1 : eqS (x1, y1) (x2, y2) with
      | true =>
        have he : (x1, y1) = (x2, y2) := of_decide_eq_true t1
        have HE2 := Lib.hid (show findG a b site = findL site (a.take (k + 1)) (a.drop (k + 1)) (b.drop (k + 1)) by rw [ho.out, HST.out, if_pos he])
        have HE3 := Lib.hid (show ordP (a.drop (k + 1)) (b.drop (k + 1)) = -1 by
          have := HOS.out
          rw [hord.out.1, if_pos (ordS_zero.2 he)] at this
          exact this.symm)
        have HE4 := Lib.hid (show a.take (k + 1) = b.take (k + 1) from HTK.out he hord.out.2)
        clear he
        go_wp2
        go_quiet (fail)
        go_wp2
        go_roundw
        case rel => exact ⟨k + 1, by omega, by omega, by go_num, HE2, ⟨HE3.out, HE4.out⟩, ext_drewN HX.out _⟩
        case measure => simp [intOf]; omega
      | false =>
        have he : ¬ (x1, y1) = (x2, y2) := of_decide_eq_false t1
        have HW1 := Lib.hid (show IntKind.i64.wrap (x2 - x1) = x2 - x1 from IntWalk.i64_in _ (by omega))
        have HW2 := Lib.hid (show IntKind.i64.wrap (x1 + 1) = x1 + 1 from IntWalk.i64_in _ (by omega))
        have HW3 := Lib.hid (show IntKind.i64.wrap (x2 - 1) = x2 - 1 from IntWalk.i64_in _ (by omega))
        have t2 : ((k : Int) == (a.length : Int)) = false := by rw [beq_eq_false_iff_ne]; omega
        have kc : k ≤ c1 := by omega
        by_cases h2 : 1 < x2 - x1
        · have HG := Lib.hid (show findG a b site = ⟨a.take k, x1 + 1, x2 - 1⟩ by rw [ho.out, HST.out, if_neg he, if_pos h2])
          have t3 : decide (1 < x2 - x1) = true := decide_eq_true h2
          clear he h2
          go_wp2
          go_quiet (fail)
          go_wp2
          have hw1 := HW1.out
          go_quiet (fail)
          clear hw1
          go_wp2
          have hw2 := HW2.out
          have hw3 := HW3.out
          refine still_tail 16 fol (by kernel_rfl) ?_
          simp only [List.take_succ_cons, List.take_zero, List.drop_succ_cons, List.drop_zero]
          repeat still_step
          refine wpStill_nil ?_
          clear hw2 hw3
          go_wp2
          refine bodyPost_ret (v := .agg #[.slice (some ⟨b1, o1, none⟩) k c1, .int .i64 (x1 + 1), .int .i64 (x2 - 1)]) (by simp [results, Tryz.results91, go_sem, r0, r1, r2]) rfl ⟨.slice (some ⟨b1, o1, none⟩) k c1, by rw [HG.out], ?_, (by repeat (first | (with_reducible exact ext_refl _) | (with_reducible refine ext_drew ?_) | (with_reducible refine ext_drewN ?_ _) | (with_reducible refine ext_alloc ?_ _) | (with_reducible refine ext_set ?_ (by first | omega | (simp <;> omega)) _) | (with_reducible refine ext_call ?_ HW.out)))⟩
          rw [HG.out]
          exact rsl_tkW (RSl.more gStp (fun _ _ _ => by omega) (HA.out.ext gStp (by repeat (first | (with_reducible exact ext_refl _) | (with_reducible refine ext_drew ?_) | (with_reducible refine ext_drewN ?_ _) | (with_reducible refine ext_alloc ?_ _) | (with_reducible refine ext_set ?_ (by first | omega | (simp <;> omega)) _) | (with_reducible refine ext_call ?_ HW.out))))) (by omega)
        · have HG := Lib.hid (show findG a b site = aboveL (a.take (k + 1)) (a.drop (k + 1)) by rw [ho.out, HST.out, if_neg he, if_neg h2])
          have t3 : decide (1 < x2 - x1) = false := decide_eq_false h2
          have HCA : Hid (∀ W, Ext w W → Calls Tryz.prog 126 #[.slice (some ⟨b1, o1, none⟩) a.length c1, .int .i64 ((k : Int) + 1)] W (IsGap (fun k => k < w.heap.size ∧ k < W.heap.size) (aboveL (a.take (k + 1)) (a.drop (k + 1))) W)) := fun W hx => by
            have := HAB.out W hx (k + 1) (by omega)
            rwa [show (((k + 1 : Nat) : Int)) = (k : Int) + 1 by omega] at this
          clear he h2
          go_wp2
          go_quiet (fail)
          go_wp2
          have hw1 := HW1.out
          go_quiet (fail)
          clear hw1
          go_wp2_with (go_at_call 126; ((with_reducible refine (HCA.out _ (ext_drewN HW.out _)).mono ?_); rintro e w1 ⟨v1, rfl, hv1, hx1⟩; obtain ⟨a3, n3, c3, rfl⟩ := hv1.slice; have HV1 := Lib.hid hv1; have hx2 := ext_call (ext_drewN HX.out _) hx1; clear hv1; (try clear r0 r1 r2 f0 f1 f2); have r0 := (hx2.cells w.heap.size 0 (by simp <;> omega)).trans (show _ = some (.slice none 0 0) by go_simp); have r1 := (hx2.cells w.heap.size 1 (by simp <;> omega)).trans (show _ = some (.int .i64 0) by go_simp); have r2 := (hx2.cells w.heap.size 2 (by simp <;> omega)).trans (show _ = some (.int .i64 0) by go_simp); have f0 := (hx2.frz w.heap.size 0 (by simp <;> omega)).trans (show _ = false by go_simp); have f1 := (hx2.frz w.heap.size 1 (by simp <;> omega)).trans (show _ = false by go_simp); have f2 := (hx2.frz w.heap.size 2 (by simp <;> omega)).trans (show _ = false by go_simp); have HX2 := Lib.hid hx2; clear hx2 hx1))
          refine bodyPost_ret (v := .agg #[.slice a3 n3 c3, .int .i64 (aboveL (a.take (k + 1)) (a.drop (k + 1))).least, .int .i64 (aboveL (a.take (k + 1)) (a.drop (k + 1))).most]) (by simp [results, Tryz.results91, go_sem, r0, r1, r2]) rfl ⟨.slice a3 n3 c3, by rw [HG.out], ?_, (by repeat (first | (with_reducible exact ext_refl _) | (with_reducible refine ext_drew ?_) | (with_reducible refine ext_drewN ?_ _) | (with_reducible refine ext_alloc ?_ _) | (with_reducible refine ext_set ?_ (by first | omega | (simp <;> omega)) _) | (with_reducible refine ext_call ?_ HX2.out)))⟩
          rw [HG.out]
          exact gap_fin HV1.out (keeps_set (keeps_set (keeps_set keeps_refl (fun _ h => h rfl) _) (fun _ h => h rfl) _) (fun _ h => h rfl) _) (by simp <;> omega)

    · have hk : k = a.length := by omega
      have HG := Lib.hid (show findG a b site = belowL site (b.take k) (b.drop k) by
        rw [ho.out, List.drop_eq_nil_of_le (show a.length ≤ k by omega), find_nil, hord.out.2])
      have t2 : ((k : Int) == (a.length : Int)) = true := by rw [beq_iff_eq]; omega
      have t3 : decide ((k : Int) < (a.length : Int)) = false := decide_eq_false (by omega)
      clear hk
      go_wp2
      go_quiet (fail)
      go_wp2_with (go_at_call 127; ((with_reducible refine (HBL.out HBN.out _ (ext_drewN HW.out _) k hkb).mono ?_); rintro e w1 ⟨v1, rfl, hv1, hx1⟩; obtain ⟨a3, n3, c3, rfl⟩ := hv1.slice; have HV1 := Lib.hid hv1; have hx2 := ext_call (ext_drewN HX.out _) hx1; clear hv1; (try clear r0 r1 r2 f0 f1 f2); have r0 := (hx2.cells w.heap.size 0 (by simp <;> omega)).trans (show _ = some (.slice none 0 0) by go_simp); have r1 := (hx2.cells w.heap.size 1 (by simp <;> omega)).trans (show _ = some (.int .i64 0) by go_simp); have r2 := (hx2.cells w.heap.size 2 (by simp <;> omega)).trans (show _ = some (.int .i64 0) by go_simp); have f0 := (hx2.frz w.heap.size 0 (by simp <;> omega)).trans (show _ = false by go_simp); have f1 := (hx2.frz w.heap.size 1 (by simp <;> omega)).trans (show _ = false by go_simp); have f2 := (hx2.frz w.heap.size 2 (by simp <;> omega)).trans (show _ = false by go_simp); have HX2 := Lib.hid hx2; clear hx2 hx1))
      refine bodyPost_ret (v := .agg #[.slice a3 n3 c3, .int .i64 (belowL site (b.take k) (b.drop k)).least, .int .i64 (belowL site (b.take k) (b.drop k)).most]) (by simp [results, Tryz.results91, go_sem, r0, r1, r2]) rfl ⟨.slice a3 n3 c3, by rw [HG.out], ?_, (by repeat (first | (with_reducible exact ext_refl _) | (with_reducible refine ext_drew ?_) | (with_reducible refine ext_drewN ?_ _) | (with_reducible refine ext_alloc ?_ _) | (with_reducible refine ext_set ?_ (by first | omega | (simp <;> omega)) _) | (with_reducible refine ext_call ?_ HX2.out)))⟩
      rw [HG.out]
      exact gap_fin HV1.out (keeps_set (keeps_set (keeps_set keeps_refl (fun _ h => h rfl) _) (fun _ h => h rfl) _) (fun _ h => h rfl) _) (by simp <;> omega)

end Go.Proofs.YtfgfdohppgoajaaGreat
/- What is wrong with what is asked between two marks, by the program. -/
namespace Go.Proofs.YtfgfdohppgoajaaGreat
open Go Go.RowKit Cp

theorem closeB {x : Int} {n : Bool} {G : Prop} (h : (x != 0) = false ∨ (!n) = false) (hx : ¬ x = 0) (k : n = true → G) : G := by
  rcases h with h | h
  · exact absurd (by simpa using h) hx
  · exact k (by simpa using h)

set_option maxRecDepth 100000 in
set_option maxHeartbeats 4000000 in
theorem free_any {F G : Nat → Prop} {w : World} {cs ds : List Value} {a b : Mk} {site clock many : Int} (ha : RMk F w cs a) (hb : RMk G w ds b) (hc : I64 clock) (hm : I64 many) :
    Calls Tryz.prog 90 #[.agg cs.toArray, .agg ds.toArray, .int .i64 site, .int .i64 clock, .int .i64 many] w fun e w' => e = .returned (.int .i64 (betweenErr a b site clock many)) ∧ Ext w w' := by
  have HNA := Lib.hid (fun (W : World) (hx : Ext w W) => noneP_any (gMk.ext ha hx))
  have HNB := Lib.hid (fun (W : World) (hx : Ext w W) => noneP_any (gMk.ext hb hx))
  have HCA := Lib.hid (fun (W : World) (hx : Ext w W) => check_any (gMk.ext ha hx))
  have HCB := Lib.hid (fun (W : World) (hx : Ext w W) => check_any (gMk.ext hb hx))
  have HOR := Lib.hid (fun (W : World) (hx : Ext w W) => order_any (gMk.ext ha hx) (gMk.ext hb hx))
  obtain ⟨v, rfl, hl, _⟩ := ha
  obtain ⟨u, rfl, hmm, _⟩ := hb
  obtain ⟨l, c⟩ := a
  obtain ⟨m, d⟩ := b
  have HEQ := Lib.hid (fun (W : World) (hx : Ext w W) => equalPaths_any (hl.ext gStp hx) (hmm.ext gStp hx))
  simp only at hl hmm HEQ ⊢
  obtain ⟨a1, n1, c1, rfl⟩ := hl.slice
  obtain ⟨a2, n2, c2, rfl⟩ := hmm.slice
  obtain ⟨rfl, _, _⟩ := hl.len
  obtain ⟨rfl, _, _⟩ := hmm.len
  clear hl hmm
  cases g1 : inB clock 1 10000 with
  | false =>
    clear hc hm
    go_enter Tryz.func90, Tryz.ntmps90
    go_wp2_with (first
    | (go_at_call 85; ((with_reducible refine (HNA.out _ extA).mono ?_); rintro e w1 ⟨rfl, hx1⟩; have hc1 := hx1.cells; have hz1 := hx1.size; (try simp at hz1); have hb1_0 : w.heap.size < w1.heap.size := (by omega); have hb1_1 : w.heap.size + 1 < w1.heap.size := (by omega); have hb1_2 : w.heap.size + 1 + 1 < w1.heap.size := (by omega)))
    | (go_at_call 85; ((with_reducible refine (HNB.out _ extA).mono ?_); rintro e w1 ⟨rfl, hx1⟩; have hc1 := hx1.cells; have hz1 := hx1.size; (try simp at hz1); have hb1_0 : w.heap.size < w1.heap.size := (by omega); have hb1_1 : w.heap.size + 1 < w1.heap.size := (by omega); have hb1_2 : w.heap.size + 1 + 1 < w1.heap.size := (by omega)))
    | (go_at_call 58; ((with_reducible refine (HCA.out _ extA).mono ?_); rintro e w1 ⟨rfl, hx1⟩; have hc1 := hx1.cells; have hz1 := hx1.size; (try simp at hz1); have hb1_0 : w.heap.size < w1.heap.size := (by omega); have hb1_1 : w.heap.size + 1 < w1.heap.size := (by omega); have hb1_2 : w.heap.size + 1 + 1 < w1.heap.size := (by omega)))
    | (go_at_call 58; ((with_reducible refine (HCB.out _ extA).mono ?_); rintro e w1 ⟨rfl, hx1⟩; have hc1 := hx1.cells; have hz1 := hx1.size; (try simp at hz1); have hb1_0 : w.heap.size < w1.heap.size := (by omega); have hb1_1 : w.heap.size + 1 < w1.heap.size := (by omega); have hb1_2 : w.heap.size + 1 + 1 < w1.heap.size := (by omega)))
    | (go_at_call 59; ((with_reducible refine (HOR.out _ extA).mono ?_); rintro e w1 ⟨rfl, hx1⟩; have hc1 := hx1.cells; have hz1 := hx1.size; (try simp at hz1); have hb1_0 : w.heap.size < w1.heap.size := (by omega); have hb1_1 : w.heap.size + 1 < w1.heap.size := (by omega); have hb1_2 : w.heap.size + 1 + 1 < w1.heap.size := (by omega)))
    | (go_at_call 125; ((with_reducible refine (HEQ.out _ extA).mono ?_); rintro e w1 ⟨rfl, hx1⟩; have hc1 := hx1.cells; have hz1 := hx1.size; (try simp at hz1); have hb1_0 : w.heap.size < w1.heap.size := (by omega); have hb1_1 : w.heap.size + 1 < w1.heap.size := (by omega); have hb1_2 : w.heap.size + 1 + 1 < w1.heap.size := (by omega)))
    | (go_at_call 102; refine (within_any _ _ _ _).mono ?_; rintro e w9 ⟨rfl, rfl⟩)
    | (go_at_call 103; refine (site_any _ _).mono ?_; rintro e w9 ⟨rfl, rfl⟩))
    refine wp_loop_rounds 3 ?_
    rw [rounds_succ]
    go_wp2_with (first
    | (go_at_call 85; ((with_reducible refine (HNA.out _ extA).mono ?_); rintro e w1 ⟨rfl, hx1⟩; have hc1 := hx1.cells; have hz1 := hx1.size; (try simp at hz1); have hb1_0 : w.heap.size < w1.heap.size := (by omega); have hb1_1 : w.heap.size + 1 < w1.heap.size := (by omega); have hb1_2 : w.heap.size + 1 + 1 < w1.heap.size := (by omega)))
    | (go_at_call 85; ((with_reducible refine (HNB.out _ extA).mono ?_); rintro e w1 ⟨rfl, hx1⟩; have hc1 := hx1.cells; have hz1 := hx1.size; (try simp at hz1); have hb1_0 : w.heap.size < w1.heap.size := (by omega); have hb1_1 : w.heap.size + 1 < w1.heap.size := (by omega); have hb1_2 : w.heap.size + 1 + 1 < w1.heap.size := (by omega)))
    | (go_at_call 58; ((with_reducible refine (HCA.out _ extA).mono ?_); rintro e w1 ⟨rfl, hx1⟩; have hc1 := hx1.cells; have hz1 := hx1.size; (try simp at hz1); have hb1_0 : w.heap.size < w1.heap.size := (by omega); have hb1_1 : w.heap.size + 1 < w1.heap.size := (by omega); have hb1_2 : w.heap.size + 1 + 1 < w1.heap.size := (by omega)))
    | (go_at_call 58; ((with_reducible refine (HCB.out _ extA).mono ?_); rintro e w1 ⟨rfl, hx1⟩; have hc1 := hx1.cells; have hz1 := hx1.size; (try simp at hz1); have hb1_0 : w.heap.size < w1.heap.size := (by omega); have hb1_1 : w.heap.size + 1 < w1.heap.size := (by omega); have hb1_2 : w.heap.size + 1 + 1 < w1.heap.size := (by omega)))
    | (go_at_call 59; ((with_reducible refine (HOR.out _ extA).mono ?_); rintro e w1 ⟨rfl, hx1⟩; have hc1 := hx1.cells; have hz1 := hx1.size; (try simp at hz1); have hb1_0 : w.heap.size < w1.heap.size := (by omega); have hb1_1 : w.heap.size + 1 < w1.heap.size := (by omega); have hb1_2 : w.heap.size + 1 + 1 < w1.heap.size := (by omega)))
    | (go_at_call 125; ((with_reducible refine (HEQ.out _ extA).mono ?_); rintro e w1 ⟨rfl, hx1⟩; have hc1 := hx1.cells; have hz1 := hx1.size; (try simp at hz1); have hb1_0 : w.heap.size < w1.heap.size := (by omega); have hb1_1 : w.heap.size + 1 < w1.heap.size := (by omega); have hb1_2 : w.heap.size + 1 + 1 < w1.heap.size := (by omega)))
    | (go_at_call 102; refine (within_any _ _ _ _).mono ?_; rintro e w9 ⟨rfl, rfl⟩)
    | (go_at_call 103; refine (site_any _ _).mono ?_; rintro e w9 ⟨rfl, rfl⟩))
    all_goals try rw [rounds_succ]
    go_wp2_with (first
    | (go_at_call 85; ((with_reducible refine (HNA.out _ extA).mono ?_); rintro e w1 ⟨rfl, hx1⟩; have hc1 := hx1.cells; have hz1 := hx1.size; (try simp at hz1); have hb1_0 : w.heap.size < w1.heap.size := (by omega); have hb1_1 : w.heap.size + 1 < w1.heap.size := (by omega); have hb1_2 : w.heap.size + 1 + 1 < w1.heap.size := (by omega)))
    | (go_at_call 85; ((with_reducible refine (HNB.out _ extA).mono ?_); rintro e w1 ⟨rfl, hx1⟩; have hc1 := hx1.cells; have hz1 := hx1.size; (try simp at hz1); have hb1_0 : w.heap.size < w1.heap.size := (by omega); have hb1_1 : w.heap.size + 1 < w1.heap.size := (by omega); have hb1_2 : w.heap.size + 1 + 1 < w1.heap.size := (by omega)))
    | (go_at_call 58; ((with_reducible refine (HCA.out _ extA).mono ?_); rintro e w1 ⟨rfl, hx1⟩; have hc1 := hx1.cells; have hz1 := hx1.size; (try simp at hz1); have hb1_0 : w.heap.size < w1.heap.size := (by omega); have hb1_1 : w.heap.size + 1 < w1.heap.size := (by omega); have hb1_2 : w.heap.size + 1 + 1 < w1.heap.size := (by omega)))
    | (go_at_call 58; ((with_reducible refine (HCB.out _ extA).mono ?_); rintro e w1 ⟨rfl, hx1⟩; have hc1 := hx1.cells; have hz1 := hx1.size; (try simp at hz1); have hb1_0 : w.heap.size < w1.heap.size := (by omega); have hb1_1 : w.heap.size + 1 < w1.heap.size := (by omega); have hb1_2 : w.heap.size + 1 + 1 < w1.heap.size := (by omega)))
    | (go_at_call 59; ((with_reducible refine (HOR.out _ extA).mono ?_); rintro e w1 ⟨rfl, hx1⟩; have hc1 := hx1.cells; have hz1 := hx1.size; (try simp at hz1); have hb1_0 : w.heap.size < w1.heap.size := (by omega); have hb1_1 : w.heap.size + 1 < w1.heap.size := (by omega); have hb1_2 : w.heap.size + 1 + 1 < w1.heap.size := (by omega)))
    | (go_at_call 125; ((with_reducible refine (HEQ.out _ extA).mono ?_); rintro e w1 ⟨rfl, hx1⟩; have hc1 := hx1.cells; have hz1 := hx1.size; (try simp at hz1); have hb1_0 : w.heap.size < w1.heap.size := (by omega); have hb1_1 : w.heap.size + 1 < w1.heap.size := (by omega); have hb1_2 : w.heap.size + 1 + 1 < w1.heap.size := (by omega)))
    | (go_at_call 102; refine (within_any _ _ _ _).mono ?_; rintro e w9 ⟨rfl, rfl⟩)
    | (go_at_call 103; refine (site_any _ _).mono ?_; rintro e w9 ⟨rfl, rfl⟩))
    all_goals try rw [rounds_succ]
    go_wp2_with (first
    | (go_at_call 85; ((with_reducible refine (HNA.out _ extA).mono ?_); rintro e w1 ⟨rfl, hx1⟩; have hc1 := hx1.cells; have hz1 := hx1.size; (try simp at hz1); have hb1_0 : w.heap.size < w1.heap.size := (by omega); have hb1_1 : w.heap.size + 1 < w1.heap.size := (by omega); have hb1_2 : w.heap.size + 1 + 1 < w1.heap.size := (by omega)))
    | (go_at_call 85; ((with_reducible refine (HNB.out _ extA).mono ?_); rintro e w1 ⟨rfl, hx1⟩; have hc1 := hx1.cells; have hz1 := hx1.size; (try simp at hz1); have hb1_0 : w.heap.size < w1.heap.size := (by omega); have hb1_1 : w.heap.size + 1 < w1.heap.size := (by omega); have hb1_2 : w.heap.size + 1 + 1 < w1.heap.size := (by omega)))
    | (go_at_call 58; ((with_reducible refine (HCA.out _ extA).mono ?_); rintro e w1 ⟨rfl, hx1⟩; have hc1 := hx1.cells; have hz1 := hx1.size; (try simp at hz1); have hb1_0 : w.heap.size < w1.heap.size := (by omega); have hb1_1 : w.heap.size + 1 < w1.heap.size := (by omega); have hb1_2 : w.heap.size + 1 + 1 < w1.heap.size := (by omega)))
    | (go_at_call 58; ((with_reducible refine (HCB.out _ extA).mono ?_); rintro e w1 ⟨rfl, hx1⟩; have hc1 := hx1.cells; have hz1 := hx1.size; (try simp at hz1); have hb1_0 : w.heap.size < w1.heap.size := (by omega); have hb1_1 : w.heap.size + 1 < w1.heap.size := (by omega); have hb1_2 : w.heap.size + 1 + 1 < w1.heap.size := (by omega)))
    | (go_at_call 59; ((with_reducible refine (HOR.out _ extA).mono ?_); rintro e w1 ⟨rfl, hx1⟩; have hc1 := hx1.cells; have hz1 := hx1.size; (try simp at hz1); have hb1_0 : w.heap.size < w1.heap.size := (by omega); have hb1_1 : w.heap.size + 1 < w1.heap.size := (by omega); have hb1_2 : w.heap.size + 1 + 1 < w1.heap.size := (by omega)))
    | (go_at_call 125; ((with_reducible refine (HEQ.out _ extA).mono ?_); rintro e w1 ⟨rfl, hx1⟩; have hc1 := hx1.cells; have hz1 := hx1.size; (try simp at hz1); have hb1_0 : w.heap.size < w1.heap.size := (by omega); have hb1_1 : w.heap.size + 1 < w1.heap.size := (by omega); have hb1_2 : w.heap.size + 1 + 1 < w1.heap.size := (by omega)))
    | (go_at_call 102; refine (within_any _ _ _ _).mono ?_; rintro e w9 ⟨rfl, rfl⟩)
    | (go_at_call 103; refine (site_any _ _).mono ?_; rintro e w9 ⟨rfl, rfl⟩))
    all_goals go_ret
    all_goals refine ⟨ri ?_, extA⟩
    all_goals try (rw [bE]; first | (simp [*]; done) | (simp [*] <;> omega; done))
    all_goals try (refine closeB (x := checkM (l, c)) (n := noneM (l, c)) ?_ ?_ (fun hA => ?_); (· assumption); (· assumption))
    all_goals try (refine closeB (x := checkM (m, d)) (n := noneM (m, d)) ?_ ?_ (fun hB => ?_); (· assumption); (· assumption))
    all_goals try contradiction
    all_goals (rw [bE]; first | (simp [*]; done) | (simp [*] <;> omega))
  | true =>
    cases g2 : inB many 1 60 with
    | false =>
      clear hc hm
      go_enter Tryz.func90, Tryz.ntmps90
      go_wp2_with (first
    | (go_at_call 85; ((with_reducible refine (HNA.out _ extA).mono ?_); rintro e w1 ⟨rfl, hx1⟩; have hc1 := hx1.cells; have hz1 := hx1.size; (try simp at hz1); have hb1_0 : w.heap.size < w1.heap.size := (by omega); have hb1_1 : w.heap.size + 1 < w1.heap.size := (by omega); have hb1_2 : w.heap.size + 1 + 1 < w1.heap.size := (by omega)))
    | (go_at_call 85; ((with_reducible refine (HNB.out _ extA).mono ?_); rintro e w1 ⟨rfl, hx1⟩; have hc1 := hx1.cells; have hz1 := hx1.size; (try simp at hz1); have hb1_0 : w.heap.size < w1.heap.size := (by omega); have hb1_1 : w.heap.size + 1 < w1.heap.size := (by omega); have hb1_2 : w.heap.size + 1 + 1 < w1.heap.size := (by omega)))
    | (go_at_call 58; ((with_reducible refine (HCA.out _ extA).mono ?_); rintro e w1 ⟨rfl, hx1⟩; have hc1 := hx1.cells; have hz1 := hx1.size; (try simp at hz1); have hb1_0 : w.heap.size < w1.heap.size := (by omega); have hb1_1 : w.heap.size + 1 < w1.heap.size := (by omega); have hb1_2 : w.heap.size + 1 + 1 < w1.heap.size := (by omega)))
    | (go_at_call 58; ((with_reducible refine (HCB.out _ extA).mono ?_); rintro e w1 ⟨rfl, hx1⟩; have hc1 := hx1.cells; have hz1 := hx1.size; (try simp at hz1); have hb1_0 : w.heap.size < w1.heap.size := (by omega); have hb1_1 : w.heap.size + 1 < w1.heap.size := (by omega); have hb1_2 : w.heap.size + 1 + 1 < w1.heap.size := (by omega)))
    | (go_at_call 59; ((with_reducible refine (HOR.out _ extA).mono ?_); rintro e w1 ⟨rfl, hx1⟩; have hc1 := hx1.cells; have hz1 := hx1.size; (try simp at hz1); have hb1_0 : w.heap.size < w1.heap.size := (by omega); have hb1_1 : w.heap.size + 1 < w1.heap.size := (by omega); have hb1_2 : w.heap.size + 1 + 1 < w1.heap.size := (by omega)))
    | (go_at_call 125; ((with_reducible refine (HEQ.out _ extA).mono ?_); rintro e w1 ⟨rfl, hx1⟩; have hc1 := hx1.cells; have hz1 := hx1.size; (try simp at hz1); have hb1_0 : w.heap.size < w1.heap.size := (by omega); have hb1_1 : w.heap.size + 1 < w1.heap.size := (by omega); have hb1_2 : w.heap.size + 1 + 1 < w1.heap.size := (by omega)))
    | (go_at_call 102; refine (within_any _ _ _ _).mono ?_; rintro e w9 ⟨rfl, rfl⟩)
    | (go_at_call 103; refine (site_any _ _).mono ?_; rintro e w9 ⟨rfl, rfl⟩))
      refine wp_loop_rounds 3 ?_
      rw [rounds_succ]
      go_wp2_with (first
    | (go_at_call 85; ((with_reducible refine (HNA.out _ extA).mono ?_); rintro e w1 ⟨rfl, hx1⟩; have hc1 := hx1.cells; have hz1 := hx1.size; (try simp at hz1); have hb1_0 : w.heap.size < w1.heap.size := (by omega); have hb1_1 : w.heap.size + 1 < w1.heap.size := (by omega); have hb1_2 : w.heap.size + 1 + 1 < w1.heap.size := (by omega)))
    | (go_at_call 85; ((with_reducible refine (HNB.out _ extA).mono ?_); rintro e w1 ⟨rfl, hx1⟩; have hc1 := hx1.cells; have hz1 := hx1.size; (try simp at hz1); have hb1_0 : w.heap.size < w1.heap.size := (by omega); have hb1_1 : w.heap.size + 1 < w1.heap.size := (by omega); have hb1_2 : w.heap.size + 1 + 1 < w1.heap.size := (by omega)))
    | (go_at_call 58; ((with_reducible refine (HCA.out _ extA).mono ?_); rintro e w1 ⟨rfl, hx1⟩; have hc1 := hx1.cells; have hz1 := hx1.size; (try simp at hz1); have hb1_0 : w.heap.size < w1.heap.size := (by omega); have hb1_1 : w.heap.size + 1 < w1.heap.size := (by omega); have hb1_2 : w.heap.size + 1 + 1 < w1.heap.size := (by omega)))
    | (go_at_call 58; ((with_reducible refine (HCB.out _ extA).mono ?_); rintro e w1 ⟨rfl, hx1⟩; have hc1 := hx1.cells; have hz1 := hx1.size; (try simp at hz1); have hb1_0 : w.heap.size < w1.heap.size := (by omega); have hb1_1 : w.heap.size + 1 < w1.heap.size := (by omega); have hb1_2 : w.heap.size + 1 + 1 < w1.heap.size := (by omega)))
    | (go_at_call 59; ((with_reducible refine (HOR.out _ extA).mono ?_); rintro e w1 ⟨rfl, hx1⟩; have hc1 := hx1.cells; have hz1 := hx1.size; (try simp at hz1); have hb1_0 : w.heap.size < w1.heap.size := (by omega); have hb1_1 : w.heap.size + 1 < w1.heap.size := (by omega); have hb1_2 : w.heap.size + 1 + 1 < w1.heap.size := (by omega)))
    | (go_at_call 125; ((with_reducible refine (HEQ.out _ extA).mono ?_); rintro e w1 ⟨rfl, hx1⟩; have hc1 := hx1.cells; have hz1 := hx1.size; (try simp at hz1); have hb1_0 : w.heap.size < w1.heap.size := (by omega); have hb1_1 : w.heap.size + 1 < w1.heap.size := (by omega); have hb1_2 : w.heap.size + 1 + 1 < w1.heap.size := (by omega)))
    | (go_at_call 102; refine (within_any _ _ _ _).mono ?_; rintro e w9 ⟨rfl, rfl⟩)
    | (go_at_call 103; refine (site_any _ _).mono ?_; rintro e w9 ⟨rfl, rfl⟩))
      all_goals try rw [rounds_succ]
      go_wp2_with (first
    | (go_at_call 85; ((with_reducible refine (HNA.out _ extA).mono ?_); rintro e w1 ⟨rfl, hx1⟩; have hc1 := hx1.cells; have hz1 := hx1.size; (try simp at hz1); have hb1_0 : w.heap.size < w1.heap.size := (by omega); have hb1_1 : w.heap.size + 1 < w1.heap.size := (by omega); have hb1_2 : w.heap.size + 1 + 1 < w1.heap.size := (by omega)))
    | (go_at_call 85; ((with_reducible refine (HNB.out _ extA).mono ?_); rintro e w1 ⟨rfl, hx1⟩; have hc1 := hx1.cells; have hz1 := hx1.size; (try simp at hz1); have hb1_0 : w.heap.size < w1.heap.size := (by omega); have hb1_1 : w.heap.size + 1 < w1.heap.size := (by omega); have hb1_2 : w.heap.size + 1 + 1 < w1.heap.size := (by omega)))
    | (go_at_call 58; ((with_reducible refine (HCA.out _ extA).mono ?_); rintro e w1 ⟨rfl, hx1⟩; have hc1 := hx1.cells; have hz1 := hx1.size; (try simp at hz1); have hb1_0 : w.heap.size < w1.heap.size := (by omega); have hb1_1 : w.heap.size + 1 < w1.heap.size := (by omega); have hb1_2 : w.heap.size + 1 + 1 < w1.heap.size := (by omega)))
    | (go_at_call 58; ((with_reducible refine (HCB.out _ extA).mono ?_); rintro e w1 ⟨rfl, hx1⟩; have hc1 := hx1.cells; have hz1 := hx1.size; (try simp at hz1); have hb1_0 : w.heap.size < w1.heap.size := (by omega); have hb1_1 : w.heap.size + 1 < w1.heap.size := (by omega); have hb1_2 : w.heap.size + 1 + 1 < w1.heap.size := (by omega)))
    | (go_at_call 59; ((with_reducible refine (HOR.out _ extA).mono ?_); rintro e w1 ⟨rfl, hx1⟩; have hc1 := hx1.cells; have hz1 := hx1.size; (try simp at hz1); have hb1_0 : w.heap.size < w1.heap.size := (by omega); have hb1_1 : w.heap.size + 1 < w1.heap.size := (by omega); have hb1_2 : w.heap.size + 1 + 1 < w1.heap.size := (by omega)))
    | (go_at_call 125; ((with_reducible refine (HEQ.out _ extA).mono ?_); rintro e w1 ⟨rfl, hx1⟩; have hc1 := hx1.cells; have hz1 := hx1.size; (try simp at hz1); have hb1_0 : w.heap.size < w1.heap.size := (by omega); have hb1_1 : w.heap.size + 1 < w1.heap.size := (by omega); have hb1_2 : w.heap.size + 1 + 1 < w1.heap.size := (by omega)))
    | (go_at_call 102; refine (within_any _ _ _ _).mono ?_; rintro e w9 ⟨rfl, rfl⟩)
    | (go_at_call 103; refine (site_any _ _).mono ?_; rintro e w9 ⟨rfl, rfl⟩))
      all_goals try rw [rounds_succ]
      go_wp2_with (first
    | (go_at_call 85; ((with_reducible refine (HNA.out _ extA).mono ?_); rintro e w1 ⟨rfl, hx1⟩; have hc1 := hx1.cells; have hz1 := hx1.size; (try simp at hz1); have hb1_0 : w.heap.size < w1.heap.size := (by omega); have hb1_1 : w.heap.size + 1 < w1.heap.size := (by omega); have hb1_2 : w.heap.size + 1 + 1 < w1.heap.size := (by omega)))
    | (go_at_call 85; ((with_reducible refine (HNB.out _ extA).mono ?_); rintro e w1 ⟨rfl, hx1⟩; have hc1 := hx1.cells; have hz1 := hx1.size; (try simp at hz1); have hb1_0 : w.heap.size < w1.heap.size := (by omega); have hb1_1 : w.heap.size + 1 < w1.heap.size := (by omega); have hb1_2 : w.heap.size + 1 + 1 < w1.heap.size := (by omega)))
    | (go_at_call 58; ((with_reducible refine (HCA.out _ extA).mono ?_); rintro e w1 ⟨rfl, hx1⟩; have hc1 := hx1.cells; have hz1 := hx1.size; (try simp at hz1); have hb1_0 : w.heap.size < w1.heap.size := (by omega); have hb1_1 : w.heap.size + 1 < w1.heap.size := (by omega); have hb1_2 : w.heap.size + 1 + 1 < w1.heap.size := (by omega)))
    | (go_at_call 58; ((with_reducible refine (HCB.out _ extA).mono ?_); rintro e w1 ⟨rfl, hx1⟩; have hc1 := hx1.cells; have hz1 := hx1.size; (try simp at hz1); have hb1_0 : w.heap.size < w1.heap.size := (by omega); have hb1_1 : w.heap.size + 1 < w1.heap.size := (by omega); have hb1_2 : w.heap.size + 1 + 1 < w1.heap.size := (by omega)))
    | (go_at_call 59; ((with_reducible refine (HOR.out _ extA).mono ?_); rintro e w1 ⟨rfl, hx1⟩; have hc1 := hx1.cells; have hz1 := hx1.size; (try simp at hz1); have hb1_0 : w.heap.size < w1.heap.size := (by omega); have hb1_1 : w.heap.size + 1 < w1.heap.size := (by omega); have hb1_2 : w.heap.size + 1 + 1 < w1.heap.size := (by omega)))
    | (go_at_call 125; ((with_reducible refine (HEQ.out _ extA).mono ?_); rintro e w1 ⟨rfl, hx1⟩; have hc1 := hx1.cells; have hz1 := hx1.size; (try simp at hz1); have hb1_0 : w.heap.size < w1.heap.size := (by omega); have hb1_1 : w.heap.size + 1 < w1.heap.size := (by omega); have hb1_2 : w.heap.size + 1 + 1 < w1.heap.size := (by omega)))
    | (go_at_call 102; refine (within_any _ _ _ _).mono ?_; rintro e w9 ⟨rfl, rfl⟩)
    | (go_at_call 103; refine (site_any _ _).mono ?_; rintro e w9 ⟨rfl, rfl⟩))
      all_goals go_ret
      all_goals refine ⟨ri ?_, extA⟩
      all_goals try (rw [bE]; first | (simp [*]; done) | (simp [*] <;> omega; done))
      all_goals try (refine closeB (x := checkM (l, c)) (n := noneM (l, c)) ?_ ?_ (fun hA => ?_); (· assumption); (· assumption))
      all_goals try (refine closeB (x := checkM (m, d)) (n := noneM (m, d)) ?_ ?_ (fun hB => ?_); (· assumption); (· assumption))
      all_goals try contradiction
      all_goals (rw [bE]; first | (simp [*]; done) | (simp [*] <;> omega))
    | true =>
      have hb1 : 1 ≤ clock ∧ clock ≤ 10000 := by unfold inB at g1; simpa using g1
      have hb2 : 1 ≤ many ∧ many ≤ 60 := by unfold inB at g2; simpa using g2
      obtain ⟨b1, b2⟩ := hb1
      obtain ⟨b3, b4⟩ := hb2
      clear hc hm
      go_enter Tryz.func90, Tryz.ntmps90
      go_wp2_with (first
    | (go_at_call 85; ((with_reducible refine (HNA.out _ extA).mono ?_); rintro e w1 ⟨rfl, hx1⟩; have hc1 := hx1.cells; have hz1 := hx1.size; (try simp at hz1); have hb1_0 : w.heap.size < w1.heap.size := (by omega); have hb1_1 : w.heap.size + 1 < w1.heap.size := (by omega); have hb1_2 : w.heap.size + 1 + 1 < w1.heap.size := (by omega)))
    | (go_at_call 85; ((with_reducible refine (HNB.out _ extA).mono ?_); rintro e w1 ⟨rfl, hx1⟩; have hc1 := hx1.cells; have hz1 := hx1.size; (try simp at hz1); have hb1_0 : w.heap.size < w1.heap.size := (by omega); have hb1_1 : w.heap.size + 1 < w1.heap.size := (by omega); have hb1_2 : w.heap.size + 1 + 1 < w1.heap.size := (by omega)))
    | (go_at_call 58; ((with_reducible refine (HCA.out _ extA).mono ?_); rintro e w1 ⟨rfl, hx1⟩; have hc1 := hx1.cells; have hz1 := hx1.size; (try simp at hz1); have hb1_0 : w.heap.size < w1.heap.size := (by omega); have hb1_1 : w.heap.size + 1 < w1.heap.size := (by omega); have hb1_2 : w.heap.size + 1 + 1 < w1.heap.size := (by omega)))
    | (go_at_call 58; ((with_reducible refine (HCB.out _ extA).mono ?_); rintro e w1 ⟨rfl, hx1⟩; have hc1 := hx1.cells; have hz1 := hx1.size; (try simp at hz1); have hb1_0 : w.heap.size < w1.heap.size := (by omega); have hb1_1 : w.heap.size + 1 < w1.heap.size := (by omega); have hb1_2 : w.heap.size + 1 + 1 < w1.heap.size := (by omega)))
    | (go_at_call 59; ((with_reducible refine (HOR.out _ extA).mono ?_); rintro e w1 ⟨rfl, hx1⟩; have hc1 := hx1.cells; have hz1 := hx1.size; (try simp at hz1); have hb1_0 : w.heap.size < w1.heap.size := (by omega); have hb1_1 : w.heap.size + 1 < w1.heap.size := (by omega); have hb1_2 : w.heap.size + 1 + 1 < w1.heap.size := (by omega)))
    | (go_at_call 125; ((with_reducible refine (HEQ.out _ extA).mono ?_); rintro e w1 ⟨rfl, hx1⟩; have hc1 := hx1.cells; have hz1 := hx1.size; (try simp at hz1); have hb1_0 : w.heap.size < w1.heap.size := (by omega); have hb1_1 : w.heap.size + 1 < w1.heap.size := (by omega); have hb1_2 : w.heap.size + 1 + 1 < w1.heap.size := (by omega)))
    | (go_at_call 102; refine (within_any _ _ _ _).mono ?_; rintro e w9 ⟨rfl, rfl⟩)
    | (go_at_call 103; refine (site_any _ _).mono ?_; rintro e w9 ⟨rfl, rfl⟩))
      refine wp_loop_rounds 3 ?_
      rw [rounds_succ]
      go_wp2_with (first
    | (go_at_call 85; ((with_reducible refine (HNA.out _ extA).mono ?_); rintro e w1 ⟨rfl, hx1⟩; have hc1 := hx1.cells; have hz1 := hx1.size; (try simp at hz1); have hb1_0 : w.heap.size < w1.heap.size := (by omega); have hb1_1 : w.heap.size + 1 < w1.heap.size := (by omega); have hb1_2 : w.heap.size + 1 + 1 < w1.heap.size := (by omega)))
    | (go_at_call 85; ((with_reducible refine (HNB.out _ extA).mono ?_); rintro e w1 ⟨rfl, hx1⟩; have hc1 := hx1.cells; have hz1 := hx1.size; (try simp at hz1); have hb1_0 : w.heap.size < w1.heap.size := (by omega); have hb1_1 : w.heap.size + 1 < w1.heap.size := (by omega); have hb1_2 : w.heap.size + 1 + 1 < w1.heap.size := (by omega)))
    | (go_at_call 58; ((with_reducible refine (HCA.out _ extA).mono ?_); rintro e w1 ⟨rfl, hx1⟩; have hc1 := hx1.cells; have hz1 := hx1.size; (try simp at hz1); have hb1_0 : w.heap.size < w1.heap.size := (by omega); have hb1_1 : w.heap.size + 1 < w1.heap.size := (by omega); have hb1_2 : w.heap.size + 1 + 1 < w1.heap.size := (by omega)))
    | (go_at_call 58; ((with_reducible refine (HCB.out _ extA).mono ?_); rintro e w1 ⟨rfl, hx1⟩; have hc1 := hx1.cells; have hz1 := hx1.size; (try simp at hz1); have hb1_0 : w.heap.size < w1.heap.size := (by omega); have hb1_1 : w.heap.size + 1 < w1.heap.size := (by omega); have hb1_2 : w.heap.size + 1 + 1 < w1.heap.size := (by omega)))
    | (go_at_call 59; ((with_reducible refine (HOR.out _ extA).mono ?_); rintro e w1 ⟨rfl, hx1⟩; have hc1 := hx1.cells; have hz1 := hx1.size; (try simp at hz1); have hb1_0 : w.heap.size < w1.heap.size := (by omega); have hb1_1 : w.heap.size + 1 < w1.heap.size := (by omega); have hb1_2 : w.heap.size + 1 + 1 < w1.heap.size := (by omega)))
    | (go_at_call 125; ((with_reducible refine (HEQ.out _ extA).mono ?_); rintro e w1 ⟨rfl, hx1⟩; have hc1 := hx1.cells; have hz1 := hx1.size; (try simp at hz1); have hb1_0 : w.heap.size < w1.heap.size := (by omega); have hb1_1 : w.heap.size + 1 < w1.heap.size := (by omega); have hb1_2 : w.heap.size + 1 + 1 < w1.heap.size := (by omega)))
    | (go_at_call 102; refine (within_any _ _ _ _).mono ?_; rintro e w9 ⟨rfl, rfl⟩)
    | (go_at_call 103; refine (site_any _ _).mono ?_; rintro e w9 ⟨rfl, rfl⟩))
      all_goals try rw [rounds_succ]
      go_wp2_with (first
    | (go_at_call 85; ((with_reducible refine (HNA.out _ extA).mono ?_); rintro e w1 ⟨rfl, hx1⟩; have hc1 := hx1.cells; have hz1 := hx1.size; (try simp at hz1); have hb1_0 : w.heap.size < w1.heap.size := (by omega); have hb1_1 : w.heap.size + 1 < w1.heap.size := (by omega); have hb1_2 : w.heap.size + 1 + 1 < w1.heap.size := (by omega)))
    | (go_at_call 85; ((with_reducible refine (HNB.out _ extA).mono ?_); rintro e w1 ⟨rfl, hx1⟩; have hc1 := hx1.cells; have hz1 := hx1.size; (try simp at hz1); have hb1_0 : w.heap.size < w1.heap.size := (by omega); have hb1_1 : w.heap.size + 1 < w1.heap.size := (by omega); have hb1_2 : w.heap.size + 1 + 1 < w1.heap.size := (by omega)))
    | (go_at_call 58; ((with_reducible refine (HCA.out _ extA).mono ?_); rintro e w1 ⟨rfl, hx1⟩; have hc1 := hx1.cells; have hz1 := hx1.size; (try simp at hz1); have hb1_0 : w.heap.size < w1.heap.size := (by omega); have hb1_1 : w.heap.size + 1 < w1.heap.size := (by omega); have hb1_2 : w.heap.size + 1 + 1 < w1.heap.size := (by omega)))
    | (go_at_call 58; ((with_reducible refine (HCB.out _ extA).mono ?_); rintro e w1 ⟨rfl, hx1⟩; have hc1 := hx1.cells; have hz1 := hx1.size; (try simp at hz1); have hb1_0 : w.heap.size < w1.heap.size := (by omega); have hb1_1 : w.heap.size + 1 < w1.heap.size := (by omega); have hb1_2 : w.heap.size + 1 + 1 < w1.heap.size := (by omega)))
    | (go_at_call 59; ((with_reducible refine (HOR.out _ extA).mono ?_); rintro e w1 ⟨rfl, hx1⟩; have hc1 := hx1.cells; have hz1 := hx1.size; (try simp at hz1); have hb1_0 : w.heap.size < w1.heap.size := (by omega); have hb1_1 : w.heap.size + 1 < w1.heap.size := (by omega); have hb1_2 : w.heap.size + 1 + 1 < w1.heap.size := (by omega)))
    | (go_at_call 125; ((with_reducible refine (HEQ.out _ extA).mono ?_); rintro e w1 ⟨rfl, hx1⟩; have hc1 := hx1.cells; have hz1 := hx1.size; (try simp at hz1); have hb1_0 : w.heap.size < w1.heap.size := (by omega); have hb1_1 : w.heap.size + 1 < w1.heap.size := (by omega); have hb1_2 : w.heap.size + 1 + 1 < w1.heap.size := (by omega)))
    | (go_at_call 102; refine (within_any _ _ _ _).mono ?_; rintro e w9 ⟨rfl, rfl⟩)
    | (go_at_call 103; refine (site_any _ _).mono ?_; rintro e w9 ⟨rfl, rfl⟩))
      all_goals try rw [rounds_succ]
      go_wp2_with (first
    | (go_at_call 85; ((with_reducible refine (HNA.out _ extA).mono ?_); rintro e w1 ⟨rfl, hx1⟩; have hc1 := hx1.cells; have hz1 := hx1.size; (try simp at hz1); have hb1_0 : w.heap.size < w1.heap.size := (by omega); have hb1_1 : w.heap.size + 1 < w1.heap.size := (by omega); have hb1_2 : w.heap.size + 1 + 1 < w1.heap.size := (by omega)))
    | (go_at_call 85; ((with_reducible refine (HNB.out _ extA).mono ?_); rintro e w1 ⟨rfl, hx1⟩; have hc1 := hx1.cells; have hz1 := hx1.size; (try simp at hz1); have hb1_0 : w.heap.size < w1.heap.size := (by omega); have hb1_1 : w.heap.size + 1 < w1.heap.size := (by omega); have hb1_2 : w.heap.size + 1 + 1 < w1.heap.size := (by omega)))
    | (go_at_call 58; ((with_reducible refine (HCA.out _ extA).mono ?_); rintro e w1 ⟨rfl, hx1⟩; have hc1 := hx1.cells; have hz1 := hx1.size; (try simp at hz1); have hb1_0 : w.heap.size < w1.heap.size := (by omega); have hb1_1 : w.heap.size + 1 < w1.heap.size := (by omega); have hb1_2 : w.heap.size + 1 + 1 < w1.heap.size := (by omega)))
    | (go_at_call 58; ((with_reducible refine (HCB.out _ extA).mono ?_); rintro e w1 ⟨rfl, hx1⟩; have hc1 := hx1.cells; have hz1 := hx1.size; (try simp at hz1); have hb1_0 : w.heap.size < w1.heap.size := (by omega); have hb1_1 : w.heap.size + 1 < w1.heap.size := (by omega); have hb1_2 : w.heap.size + 1 + 1 < w1.heap.size := (by omega)))
    | (go_at_call 59; ((with_reducible refine (HOR.out _ extA).mono ?_); rintro e w1 ⟨rfl, hx1⟩; have hc1 := hx1.cells; have hz1 := hx1.size; (try simp at hz1); have hb1_0 : w.heap.size < w1.heap.size := (by omega); have hb1_1 : w.heap.size + 1 < w1.heap.size := (by omega); have hb1_2 : w.heap.size + 1 + 1 < w1.heap.size := (by omega)))
    | (go_at_call 125; ((with_reducible refine (HEQ.out _ extA).mono ?_); rintro e w1 ⟨rfl, hx1⟩; have hc1 := hx1.cells; have hz1 := hx1.size; (try simp at hz1); have hb1_0 : w.heap.size < w1.heap.size := (by omega); have hb1_1 : w.heap.size + 1 < w1.heap.size := (by omega); have hb1_2 : w.heap.size + 1 + 1 < w1.heap.size := (by omega)))
    | (go_at_call 102; refine (within_any _ _ _ _).mono ?_; rintro e w9 ⟨rfl, rfl⟩)
    | (go_at_call 103; refine (site_any _ _).mono ?_; rintro e w9 ⟨rfl, rfl⟩))
      all_goals go_ret
      all_goals refine ⟨ri ?_, extA⟩
      all_goals try (rw [bE]; first | (simp [*]; done) | (simp [*] <;> omega; done))
      all_goals try (refine closeB (x := checkM (l, c)) (n := noneM (l, c)) ?_ ?_ (fun hA => ?_); (· assumption); (· assumption))
      all_goals try (refine closeB (x := checkM (m, d)) (n := noneM (m, d)) ?_ ?_ (fun hB => ?_); (· assumption); (· assumption))
      all_goals try contradiction
      all_goals (rw [bE]; first | (simp [*]; done) | (simp [*] <;> omega))
end Go.Proofs.YtfgfdohppgoajaaGreat
