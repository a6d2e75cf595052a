/- Deeds that are right, by the document. -/
import Derived.Test.YtfgfdohppgoajaaQc0a47a5b23
import Derived.Test.YtfgfdohppgoajaaQ032f3a0a26
set_option linter.unusedVariables false
set_option linter.unusedSimpArgs false
namespace Go.Proofs.Ytfgfdohppgoajaa
open Go Go.RowKit Go.BigFrame Cp

def IsRawX (o : Option St) (w : World) (e : Ending) (w' : World) : Prop := match o with
  | none => e = .returned (.tuple #[.agg #[.slice none 0 0, .slice none 0 0], .bool false]) ∧ Ext w w'
  | some t => ∃ v u, e = .returned (.tuple #[.agg #[v, u], .bool true]) ∧ RSl RAt 3 (fun _ => True) w' v t.1 ∧ RSl RMk 2 (fun _ => True) w' u t.2 ∧ Ext w w'
theorem marksD_len {d : De} (h : checkD d = 0) : (marksD d).length ≤ 60 := by
  unfold marksD
  by_cases h1 : d.kind = 1
  · rw [if_pos h1, marksN_len]; exact (checkR_parts (deed_put h h1).1).2.2.1
  · rw [if_neg h1, marksN_len]
    obtain ⟨_, _, ⟨n, hn, _, _⟩, _⟩ := deed_take h h1
    rw [hn]; simp; omega
theorem marksD_put {d : De} (h1 : d.kind = 1) : marksD d = (atomsR d.run).map (·.1) := by
  unfold marksD; rw [if_pos h1, atoms_marks]
theorem atomsR_at {r : Rn} {k : Nat} (hk : k < r.2.length) : (atomsR r)[k]? = some (afterM r.1 k, r.2.getD k 0) := by simp [atomsR, hk]
set_option maxRecDepth 100000 in
set_option maxHeartbeats 4000000 in
theorem doOf_any {F G : Nat → Prop} {w : World} {cs : List Value} {s : St} {x : Value} {l : List De} (h : RSt F w cs s) (hl : RSl RDe 7 G w x l) (hs : FitS s) (hd : ∀ d ∈ l, checkD d = 0) :
    Calls Try.prog 36 #[.agg cs.toArray, x] w (IsRawX (doDs s l) w) := by
  have hl' : RSl RDe 7 (fun j => j < w.heap.size) w x l := RSl.more gDe (fun _ _ hk => hk) hl
  have HL := Lib.hid hl'
  obtain ⟨v, u, rfl, h1, h2⟩ := h
  have HA0 := Lib.hid h1
  have HG0 := Lib.hid h2
  obtain ⟨a0, n0, c0, rfl⟩ := h1.slice
  obtain ⟨a1, n1, c1, rfl⟩ := h2.slice
  obtain ⟨a2, n2, c2, rfl⟩ := hl'.slice
  obtain rfl : n2 = l.length := hl'.len.1
  have hll : l.length ≤ 9223372036854775807 := by have := hl'.len; unfold maxLen at this; omega
  have HFS := Lib.hid hs
  have HD := Lib.hid hd
  clear h1 h2 hl hl' hs hd
  go_enter Try.func36, Try.ntmps36
  go_wp2_with fail
  refine wp_name (fun wb ewb => ?_)
  have HWB := Lib.hid (show Ext w wb by rw [ewb]; exact (by repeat (first | (with_reducible exact ext_refl _) | (with_reducible assumption) | (with_reducible refine ext_drew ?_) | (with_reducible refine ext_drewN ?_ _) | (with_reducible refine ext_alloc ?_ _) | (with_reducible refine ext_set ?_ (by first | omega | (simp <;> omega)) _) | (with_reducible refine ext_trans ?_ (by with_reducible assumption)))))
  have HB := Lib.hid (show BoxIs w.heap.size s wb (.slice a0 n0 c0) (.slice a1 n1 c1) from
    ⟨by rw [ewb]; go_simp, by rw [ewb]; go_simp, fun o => by rw [ewb]; go_simp, by rw [ewb]; exact slices_ext (slices_row (heap_alloc_new w _)) (ext_alloc (ext_refl _) _) (by simp), RSl.more gAt (fun _ _ _ => trivial) (HA0.out.ext gAt HWB.out), RSl.more gMk (fun _ _ _ => trivial) (HG0.out.ext gMk HWB.out)⟩)
  have HR := Lib.hid (show BoxIs (w.heap.size + 1) ([], []) wb (.slice none 0 0) (.slice none 0 0) from
    ⟨by rw [ewb]; go_simp, by rw [ewb]; go_simp, fun o => by rw [ewb]; go_simp, by rw [ewb]; exact slices_row (by have := heap_alloc_new (w.alloc (.cells #[.slice a0 n0 c0, .slice a1 n1 c1] 25)) (.cells #[.slice none 0 0, .slice none 0 0] 25); simpa using this), RSl.nil_ (Nat.zero_le _), RSl.nil_ (Nat.zero_le _)⟩)
  clear ewb HA0 HG0
  go_loopw [6] (fun iv wr => ∃ (i : Nat) (t : St) (va vu : Value), i ≤ l.length ∧ iv = .int .i64 i ∧ Hid (doDs s (l.take i) = some t) ∧ Hid (BoxIs w.heap.size t wr va vu) ∧ Hid (BoxIs (w.heap.size + 1) ([], []) wr (.slice none 0 0) (.slice none 0 0)) ∧ Hid (Ext w wr)) (fun iv _ => l.length - (intOf iv).toNat)
  case atStart => exact ⟨0, s, _, _, Nat.zero_le _, rfl, Lib.hid rfl, HB, HR, HWB⟩
  case round =>
    obtain ⟨i, t, va, vu, hi, rfl, HT, HBX, HRX, HX⟩ := hrel
    have HFT := Lib.hid (doDs_fit HFS.out (fun d hd => HD.out d (List.mem_of_mem_take hd)) HT.out)
    by_cases hlt : i < l.length
    · obtain ⟨b, o, d, b1, m1, e1, b2, m2, e2, sx, rfl, hb, ek, hde, y0, y1, y2, y3, y4, y5, y6⟩ := deed_at HL.out hlt
      have hcd := HD.out d (List.mem_of_getElem? ek)
      have HMO := Lib.hid (fun (W : World) (hx : Ext w W) => marksOf_any (gDe.ext hde hx) hcd)
      have hms := marksD_len hcd
      obtain ⟨hn1, hn2⟩ := doDs_take ek HT.out
      have hbr : b < wr.heap.size := by have := HX.out.size; omega
      have x0 := (HX.out.cells b _ hb).trans y0
      have x1 := (HX.out.cells b _ hb).trans y1
      have x2 := (HX.out.cells b _ hb).trans y2
      have x3 := (HX.out.cells b _ hb).trans y3
      have x4 := (HX.out.cells b _ hb).trans y4
      have x5 := (HX.out.cells b _ hb).trans y5
      have x6 := (HX.out.cells b _ hb).trans y6
      by_cases hkd : d.kind = 1
      · obtain ⟨hr, hq1, hq2⟩ := deed_put hcd hkd
        clear hq1 hq2
        have hE : doDeed t d = (putNs t.2 t.1 (atomsR d.run), t.2) := by unfold doDeed; rw [if_pos hkd]
        have hk1 : (d.kind == 2) = false := by rw [hkd]; rfl
        have hmd := marksD_put hkd
        have hsx : d.run.2 = sx.data.toList := by
          obtain ⟨_, _, _, e9, _, _, _, h9, _⟩ := hde
          simp at e9
          rw [← e9.2.1] at h9
          obtain ⟨e8, _⟩ := h9
          simp at e8
          rw [e8]
        have hat : ∀ k, k < (marksD d).length → k < sx.size ∧ ∃ m, (marksD d)[k]? = some m ∧ (atomsR d.run)[k]? = some (m, sx.data.toList.getD k 0) := fun k hk => by
          have hk' : k < d.run.2.length := by rw [hmd] at hk; simpa [atomsR] using hk
          refine ⟨by rw [hsx] at hk'; simpa using hk', _, ?_, by rw [atomsR_at hk', hsx]⟩
          rw [hmd, List.getElem?_map, atomsR_at hk']; rfl
        have hal : (atomsR d.run).length = (marksD d).length := by rw [hmd, List.length_map]
        have hra := (checkA_ok (atoms_right hr)).2.2
        have HAT := Lib.hid hat
        have HAL := Lib.hid hal
        have HRA := Lib.hid hra
        rw [hE] at hn1 hn2
        have HN1 := Lib.hid hn1
        have HN2 := Lib.hid hn2
        clear hE hr hmd hsx hat hal hra hn1 hn2 ek hde hcd hkd
        generalize hmsd : marksD d = ms at *
        generalize hats : atomsR d.run = ats at *
        clear hmsd hats
        generalize d.kind = dk at *
        generalize d.run.1.2 = rc at *
        generalize d.mark.2 = mc at *
        generalize d.many = dn at *
        go_wp2_with (first | (go_at_call 22; go_must ((with_reducible refine (HMO.out _ (ext_trans HX.out (by repeat (first | (with_reducible exact ext_refl _) | (with_reducible assumption) | (with_reducible refine ext_drew ?_) | (with_reducible refine ext_drewN ?_ _) | (with_reducible refine ext_alloc ?_ _) | (with_reducible refine ext_set ?_ (by first | omega | (simp <;> omega)) _) | (with_reducible refine ext_trans ?_ (by with_reducible assumption)))))).mono ?_); rintro e w3 ⟨mv, rfl, hmv, hx3⟩; obtain ⟨am, nm, cm, rfl⟩ := hmv.slice; obtain rfl : nm = ms.length := hmv.len.1; have HB3 := Lib.hid (box_ext HBX.out (ext_trans (by repeat (first | (with_reducible exact ext_refl _) | (with_reducible assumption) | (with_reducible refine ext_drew ?_) | (with_reducible refine ext_drewN ?_ _) | (with_reducible refine ext_alloc ?_ _) | (with_reducible refine ext_set ?_ (by first | omega | (simp <;> omega)) _) | (with_reducible refine ext_trans ?_ (by with_reducible assumption)))) hx3)); have HR3 := Lib.hid (box_ext HRX.out (ext_trans (by repeat (first | (with_reducible exact ext_refl _) | (with_reducible assumption) | (with_reducible refine ext_drew ?_) | (with_reducible refine ext_drewN ?_ _) | (with_reducible refine ext_alloc ?_ _) | (with_reducible refine ext_set ?_ (by first | omega | (simp <;> omega)) _) | (with_reducible refine ext_trans ?_ (by with_reducible assumption)))) hx3)); have HX3 := Lib.hid (ext_trans HX.out (ext_trans (by repeat (first | (with_reducible exact ext_refl _) | (with_reducible assumption) | (with_reducible refine ext_drew ?_) | (with_reducible refine ext_drewN ?_ _) | (with_reducible refine ext_alloc ?_ _) | (with_reducible refine ext_set ?_ (by first | omega | (simp <;> omega)) _) | (with_reducible refine ext_trans ?_ (by with_reducible assumption)))) hx3)); have hlr := HRX.out.lt; have HM3 := Lib.hid (show RSl RMk 2 (fun j => w.heap.size + 2 ≤ j) w3 (.slice am ms.length cm) ms from RSl.more gMk (fun j hj _ => by first | omega | (simp at hj; omega)) hmv); clear hmv)))
        go_loopw [8] (fun kv wr => ∃ (k : Nat) (va' : Value), k ≤ ms.length ∧ kv = .int .i64 k ∧ Hid (BoxIs w.heap.size (putNs t.2 t.1 (ats.take k), t.2) wr va' vu) ∧ Hid (BoxIs (w.heap.size + 1) ([], []) wr (.slice none 0 0) (.slice none 0 0)) ∧ Hid (Ext w wr) ∧ Hid (RSl RMk 2 (fun j => w.heap.size + 2 ≤ j) wr (.slice am ms.length cm) ms)) (fun kv _ => ms.length - (intOf kv).toNat)
        case atStart => exact ⟨0, va, Nat.zero_le _, rfl, HB3, HR3, HX3, HM3⟩
        case round =>
          obtain ⟨k, va', hk', rfl, HBq, HRq, HXq, HMq⟩ := hrel
          obtain ⟨aa, na, ca, rfl⟩ := HBq.out.at_.slice
          obtain ⟨au, nu, cu, rfl⟩ := HBq.out.go.slice
          have z0 := (HXq.out.cells b _ hb).trans y0
          have z3 := (HXq.out.cells b _ hb).trans y3
          have p0 := HBq.out.c0
          have p1 := HBq.out.c1
          have pf0 := HBq.out.fz 0
          have pf1 := HBq.out.fz 1
          have hsq := HXq.out.size
          have hbq : b < wr.heap.size := by omega
          have hwr : w.heap.size < wr.heap.size := HBq.out.lt
          by_cases hlt' : k < ms.length
          · obtain ⟨hks, mm, hm1, hm2⟩ := HAT.out k hlt'
            obtain ⟨bm, om, p, dd, ap, cp, rfl, hbm, ekm, ick, hpp, m0, m1⟩ := mark_at HMq.out hlt'
            obtain rfl : mm = (p, dd) := by rw [ekm] at hm1; exact (Option.some.inj hm1).symm
            have HHG := Lib.hid (fun (W : World) (hx : Ext wr W) => hasGone_any (box_ext HBq.out hx).go (rmk_of' (hpp.ext gStp hx) ick))
            have hst := putNs_take (g := t.2) (l := t.1) hm2
            have HST := Lib.hid hst
            have HPP := Lib.hid (fun (W : World) (hx : Ext wr W) => hpp.ext gStp hx)
            have HIC := Lib.hid ick
            have hgd := byte_getD hks
            have hbmq : bm < wr.heap.size := hbm
            clear hm1 hm2 ekm ick hpp hst
            cases hg : hasG t.2 (p, dd) with
            | true =>
              rw [hg] at HHG
              have HSE := Lib.hid (show putNs t.2 t.1 (ats.take (k + 1)) = putNs t.2 t.1 (ats.take k) by rw [HST.out]; unfold putN; rw [hg, if_pos rfl])
              clear hg HST
              go_wp2_with fail
              refine wp_name (fun W2 eW2 => ?_)
              have e1 : W2.cell? ⟨w.heap.size, 1, none⟩ = some (.slice au nu cu) := by rw [eW2]; go_simp
              have e2 : W2.cell? ⟨bm, om + k * 2, none⟩ = some (.slice ap p.length cp) := by rw [eW2]; go_simp
              have e3 : W2.cell? ⟨bm, om + k * 2 + 1, none⟩ = some (.int .i64 dd) := by rw [eW2]; go_simp
              have zW2_0 : bm < W2.heap.size := by rw [eW2]; first | assumption | omega | (simp <;> omega)
              have zW2_1 : w.heap.size < W2.heap.size := by rw [eW2]; first | assumption | omega | (simp <;> omega)
              have hw2 : Ext wr W2 := by rw [eW2]; exact (by repeat (first | (with_reducible exact ext_refl _) | (with_reducible assumption) | (with_reducible refine ext_drew ?_) | (with_reducible refine ext_drewN ?_ _) | (with_reducible refine ext_alloc ?_ _) | (with_reducible refine ext_set ?_ (by first | omega | (simp <;> omega)) _) | (with_reducible refine ext_trans ?_ (by with_reducible assumption))))
              clear eW2
              refine wp_region_later fol (by kernel_rfl) (fun hlater => ?_)
              repeat (go_big_quiet_step ((first
                  | (go_at_call 20; (with_reducible exact later_of (HHG.out _ (ext_trans hw2 (Later.ext _))))))))
              refine wpQuiet_nil ?_
              rintro W3 ⟨⟨w3x, hx3⟩, rfl⟩
              clear hlater
              have hR3 : Ext wr W3 := ext_trans hw2 hx3
              have hs3 := hR3.size
              clear e1 e2 e3 hx3 hw2
              go_wp2_with fail
              go_roundw
              case rel => exact ⟨k + 1, _, by omega, by go_num, Lib.hid (by rw [HSE.out]; exact box_ext HBq.out hR3), Lib.hid (box_ext HRq.out hR3), Lib.hid (ext_trans HXq.out hR3), Lib.hid (HMq.out.ext gMk hR3)⟩
              case measure => simp [intOf]; omega
            | false =>
              rw [hg] at HHG
              have HSE := Lib.hid (show putNs t.2 t.1 (ats.take (k + 1)) = putA (putNs t.2 t.1 (ats.take k)) ((p, dd), sx[k]) by rw [HST.out, hgd]; unfold putN; rw [hg, if_neg (by simp)])
              have HPA := Lib.hid (fun (W : World) (hx : Ext wr W) => docPut_any (box_ext HBq.out hx).at_ (rat_of (HPP.out W hx) HIC.out (s := sx[k])) (putNs_right HFT.out.1.1 (fun a ha => HRA.out a (List.mem_of_mem_take ha))).1 (Nat.le_trans (putNs_len _ _ _) (by have h3 := HFT.out.2.1; rw [List.length_take]; omega)))
              clear hg HST
              go_wp2_with fail
              refine wp_name (fun W2 eW2 => ?_)
              have e1 : W2.cell? ⟨w.heap.size, 1, none⟩ = some (.slice au nu cu) := by rw [eW2]; go_simp
              have e2 : W2.cell? ⟨bm, om + k * 2, none⟩ = some (.slice ap p.length cp) := by rw [eW2]; go_simp
              have e3 : W2.cell? ⟨bm, om + k * 2 + 1, none⟩ = some (.int .i64 dd) := by rw [eW2]; go_simp
              have zW2_0 : bm < W2.heap.size := by rw [eW2]; first | assumption | omega | (simp <;> omega)
              have zW2_1 : w.heap.size < W2.heap.size := by rw [eW2]; first | assumption | omega | (simp <;> omega)
              have hw2 : Ext wr W2 := by rw [eW2]; exact (by repeat (first | (with_reducible exact ext_refl _) | (with_reducible assumption) | (with_reducible refine ext_drew ?_) | (with_reducible refine ext_drewN ?_ _) | (with_reducible refine ext_alloc ?_ _) | (with_reducible refine ext_set ?_ (by first | omega | (simp <;> omega)) _) | (with_reducible refine ext_trans ?_ (by with_reducible assumption))))
              clear eW2
              refine wp_region_later fol (by kernel_rfl) (fun hlater => ?_)
              repeat (go_big_quiet_step ((first
                  | (go_at_call 20; (with_reducible exact later_of (HHG.out _ (ext_trans hw2 (Later.ext _))))))))
              refine wpQuiet_nil ?_
              rintro W3 ⟨⟨w3x, hx3⟩, rfl⟩
              clear hlater
              have hR3 : Ext wr W3 := ext_trans hw2 hx3
              have hs3 := hR3.size
              clear e1 e2 e3 hx3 hw2
              go_wp2_with fail
              refine wp_name (fun W4 eW4 => ?_)
              have HR4 := Lib.hid (show Ext wr W4 by rw [eW4]; exact hR3)
              clear eW4
              have hs4 := HR4.out.size
              have t0 := (HR4.out.cells _ _ hwr).trans p0
              have t1 := (HR4.out.cells _ _ hwr).trans p1
              have tf0 := (HR4.out.frz _ _ hwr).trans pf0
              have t2 := (HR4.out.cells _ _ hbmq).trans m0
              have t3 := (HR4.out.cells _ _ hbmq).trans m1
              have t4 := (HR4.out.cells _ _ hbq).trans z3
              refine wp_region_tail 15 fol (by kernel_rfl) (fun W hW => ?_)
              subst hW
              simp only [List.take_succ_cons, List.take_zero, List.drop_succ_cons, List.drop_zero]
              repeat (go_big_quiet_step (fail))
              refine wpQuiet_nil ?_
              go_wp2_with (first | (go_at_call 81; go_must ((with_reducible refine (HPA.out _ (ext_trans HR4.out (by repeat (first | (with_reducible exact ext_refl _) | (with_reducible assumption) | (with_reducible refine ext_drew ?_) | (with_reducible refine ext_drewN ?_ _) | (with_reducible refine ext_alloc ?_ _) | (with_reducible refine ext_set ?_ (by first | omega | (simp <;> omega)) _) | (with_reducible refine ext_trans ?_ (by with_reducible assumption)))))).mono ?_); rintro e w5 ⟨v5, rfl, hv5, hx5⟩; obtain ⟨a5, n5, c5, rfl⟩ := hv5.slice; have HV5 := Lib.hid hv5; have HB5 := Lib.hid (box_ext HBq.out (ext_trans (ext_trans HR4.out (by repeat (first | (with_reducible exact ext_refl _) | (with_reducible assumption) | (with_reducible refine ext_drew ?_) | (with_reducible refine ext_drewN ?_ _) | (with_reducible refine ext_alloc ?_ _) | (with_reducible refine ext_set ?_ (by first | omega | (simp <;> omega)) _) | (with_reducible refine ext_trans ?_ (by with_reducible assumption))))) hx5)); have HR5 := Lib.hid (box_ext HRq.out (ext_trans (ext_trans HR4.out (by repeat (first | (with_reducible exact ext_refl _) | (with_reducible assumption) | (with_reducible refine ext_drew ?_) | (with_reducible refine ext_drewN ?_ _) | (with_reducible refine ext_alloc ?_ _) | (with_reducible refine ext_set ?_ (by first | omega | (simp <;> omega)) _) | (with_reducible refine ext_trans ?_ (by with_reducible assumption))))) hx5)); have HX5 := Lib.hid (ext_trans HXq.out (ext_trans (ext_trans HR4.out (by repeat (first | (with_reducible exact ext_refl _) | (with_reducible assumption) | (with_reducible refine ext_drew ?_) | (with_reducible refine ext_drewN ?_ _) | (with_reducible refine ext_alloc ?_ _) | (with_reducible refine ext_set ?_ (by first | omega | (simp <;> omega)) _) | (with_reducible refine ext_trans ?_ (by with_reducible assumption))))) hx5)); have HM5 := Lib.hid (HMq.out.ext gMk (ext_trans (ext_trans HR4.out (by repeat (first | (with_reducible exact ext_refl _) | (with_reducible assumption) | (with_reducible refine ext_drew ?_) | (with_reducible refine ext_drewN ?_ _) | (with_reducible refine ext_alloc ?_ _) | (with_reducible refine ext_set ?_ (by first | omega | (simp <;> omega)) _) | (with_reducible refine ext_trans ?_ (by with_reducible assumption))))) hx5)); have q0 := HB5.out.c0; have q1 := HB5.out.c1; have qf0 := HB5.out.fz 0; have qf1 := HB5.out.fz 1; clear hv5 hx5)))
              go_roundw
              case rel => exact ⟨k + 1, _, by omega, by go_num, Lib.hid (by rw [HSE.out]; exact box_set0 (t := (putNs t.2 t.1 (ats.take k), t.2)) HB5.out HV5.out), Lib.hid (box_other HR5.out (show w.heap.size ≠ w.heap.size + 1 by omega) HB5.out.sl _ _ _ _), Lib.hid (ext_set HX5.out (Nat.le_refl _) _), Lib.hid (HM5.out.keep gMk (keeps_set keeps_refl (fun _ h => by have h' : w.heap.size + 2 ≤ w.heap.size := h; omega) _))⟩
              case measure => simp [intOf]; omega
          · obtain rfl : k = ms.length := by omega
            have HBF := Lib.hid (show BoxIs w.heap.size (putNs t.2 t.1 ats, t.2) wr (.slice aa na ca) (.slice au nu cu) by have := HBq.out; rwa [List.take_of_length_le (by rw [HAL.out]; exact Nat.le_refl _)] at this)
            have HRF := HRq
            have HXF := HXq
            have e3 := HBF.out.at_.len.1
            have e4 := HBF.out.go.len.1
            (try simp only at e3 e4)
            subst e3 e4
            have r0 := HRF.out.c0
            have r1 := HRF.out.c1
            have rf0 := HRF.out.fz 0
            have rf1 := HRF.out.fz 1
            by_cases g3 : 300 < (putNs t.2 t.1 ats).length
            · have HNN := Lib.hid (HN1.out (by simp only [tooMuch, Bool.or_eq_true, decide_eq_true_eq]; omega))
              have g1 : decide ((300 : Int) < ((putNs t.2 t.1 ats).length : Int)) = true := decide_eq_true (by omega)
              have g2 : decide (300 < (putNs t.2 t.1 ats).length) = true := decide_eq_true g3
              go_wp2_with fail
              refine bodyPost_ret (v := .tuple #[.agg #[.slice none 0 0, .slice none 0 0], .bool false]) (by simp [results, Try.results36, go_sem, r0, r1]) rfl (by rw [HNN.out]; exact ⟨rfl, ext_set (ext_set HXF.out (by show w.heap.size ≤ w.heap.size + 1; omega) _) (by show w.heap.size ≤ w.heap.size + 1; omega) _⟩)
            · by_cases g6 : 600 < (t.2).length
              · have HNN := Lib.hid (HN1.out (by simp only [tooMuch, Bool.or_eq_true, decide_eq_true_eq]; omega))
                have g1 : decide ((300 : Int) < ((putNs t.2 t.1 ats).length : Int)) = false := decide_eq_false (by omega)
                have g2 : decide (300 < (putNs t.2 t.1 ats).length) = false := decide_eq_false g3
                have g4 : decide ((600 : Int) < ((t.2).length : Int)) = true := decide_eq_true (by omega)
                have g5 : decide (600 < (t.2).length) = true := decide_eq_true g6
                go_wp2_with fail
                refine bodyPost_ret (v := .tuple #[.agg #[.slice none 0 0, .slice none 0 0], .bool false]) (by simp [results, Try.results36, go_sem, r0, r1]) rfl (by rw [HNN.out]; exact ⟨rfl, ext_set (ext_set HXF.out (by show w.heap.size ≤ w.heap.size + 1; omega) _) (by show w.heap.size ≤ w.heap.size + 1; omega) _⟩)
              · have HNN := Lib.hid (HN2.out (by simp only [tooMuch, Bool.or_eq_false_iff, decide_eq_false_iff_not]; omega))
                have g1 : decide ((300 : Int) < ((putNs t.2 t.1 ats).length : Int)) = false := decide_eq_false (by omega)
                have g2 : decide (300 < (putNs t.2 t.1 ats).length) = false := decide_eq_false g3
                have g4 : decide ((600 : Int) < ((t.2).length : Int)) = false := decide_eq_false (by omega)
                have g5 : decide (600 < (t.2).length) = false := decide_eq_false g6
                go_wp2_with fail
                go_roundw
                case rel => exact ⟨i + 1, _, _, _, by omega, by go_num, HNN, HBF, HRF, HXF⟩
                case measure => simp [intOf]; omega
      · obtain ⟨hk2, hq⟩ := deed_take hcd hkd
        clear hq
        have hE : doDeed t d = (takeA t.1 (marksD d), putGs t.2 (marksD d)) := by unfold doDeed; rw [if_neg hkd]
        have hk1 : (d.kind == 2) = true := by rw [hk2]; rfl
        rw [hE] at hn1 hn2
        have HN1 := Lib.hid hn1
        have HN2 := Lib.hid hn2
        clear hE hn1 hn2 ek hde hcd hkd hk2
        generalize hmsd : marksD d = ms at *
        clear hmsd
        generalize d.kind = dk at *
        generalize d.run.1.2 = rc at *
        generalize d.mark.2 = mc at *
        generalize d.many = dn at *
        go_wp2_with (first | (go_at_call 22; go_must ((with_reducible refine (HMO.out _ (ext_trans HX.out (by repeat (first | (with_reducible exact ext_refl _) | (with_reducible assumption) | (with_reducible refine ext_drew ?_) | (with_reducible refine ext_drewN ?_ _) | (with_reducible refine ext_alloc ?_ _) | (with_reducible refine ext_set ?_ (by first | omega | (simp <;> omega)) _) | (with_reducible refine ext_trans ?_ (by with_reducible assumption)))))).mono ?_); rintro e w3 ⟨mv, rfl, hmv, hx3⟩; obtain ⟨am, nm, cm, rfl⟩ := hmv.slice; obtain rfl : nm = ms.length := hmv.len.1; have HB3 := Lib.hid (box_ext HBX.out (ext_trans (by repeat (first | (with_reducible exact ext_refl _) | (with_reducible assumption) | (with_reducible refine ext_drew ?_) | (with_reducible refine ext_drewN ?_ _) | (with_reducible refine ext_alloc ?_ _) | (with_reducible refine ext_set ?_ (by first | omega | (simp <;> omega)) _) | (with_reducible refine ext_trans ?_ (by with_reducible assumption)))) hx3)); have HR3 := Lib.hid (box_ext HRX.out (ext_trans (by repeat (first | (with_reducible exact ext_refl _) | (with_reducible assumption) | (with_reducible refine ext_drew ?_) | (with_reducible refine ext_drewN ?_ _) | (with_reducible refine ext_alloc ?_ _) | (with_reducible refine ext_set ?_ (by first | omega | (simp <;> omega)) _) | (with_reducible refine ext_trans ?_ (by with_reducible assumption)))) hx3)); have HX3 := Lib.hid (ext_trans HX.out (ext_trans (by repeat (first | (with_reducible exact ext_refl _) | (with_reducible assumption) | (with_reducible refine ext_drew ?_) | (with_reducible refine ext_drewN ?_ _) | (with_reducible refine ext_alloc ?_ _) | (with_reducible refine ext_set ?_ (by first | omega | (simp <;> omega)) _) | (with_reducible refine ext_trans ?_ (by with_reducible assumption)))) hx3)); have hlr := HRX.out.lt; have HM3 := Lib.hid (show RSl RMk 2 (fun j => w.heap.size + 2 ≤ j) w3 (.slice am ms.length cm) ms from RSl.more gMk (fun j hj _ => by first | omega | (simp at hj; omega)) hmv); clear hmv)))
        go_loopw [8] (fun kv wr => ∃ (k : Nat) (vu' : Value), k ≤ ms.length ∧ kv = .int .i64 k ∧ Hid (BoxIs w.heap.size (t.1, putGs t.2 (ms.take k)) wr va vu') ∧ Hid (BoxIs (w.heap.size + 1) ([], []) wr (.slice none 0 0) (.slice none 0 0)) ∧ Hid (Ext w wr) ∧ Hid (RSl RMk 2 (fun j => w.heap.size + 2 ≤ j) wr (.slice am ms.length cm) ms)) (fun kv _ => ms.length - (intOf kv).toNat)
        case atStart => exact ⟨0, vu, Nat.zero_le _, rfl, HB3, HR3, HX3, HM3⟩
        case round =>
          obtain ⟨k, vu', hk', rfl, HBq, HRq, HXq, HMq⟩ := hrel
          obtain ⟨aa, na, ca, rfl⟩ := HBq.out.at_.slice
          obtain ⟨au, nu, cu, rfl⟩ := HBq.out.go.slice
          have z0 := (HXq.out.cells b _ hb).trans y0
          have z3 := (HXq.out.cells b _ hb).trans y3
          have p0 := HBq.out.c0
          have p1 := HBq.out.c1
          have pf0 := HBq.out.fz 0
          have pf1 := HBq.out.fz 1
          have hsq := HXq.out.size
          have hbq : b < wr.heap.size := by omega
          have hwr : w.heap.size < wr.heap.size := HBq.out.lt
          by_cases hlt' : k < ms.length
          · obtain ⟨bm, om, p, dd, ap, cp, rfl, hbm, ekm, ick, hpp, m0, m1⟩ := mark_at HMq.out hlt'
            have HEX := Lib.hid (putGs_take (l := t.2) ekm)
            have HPG := Lib.hid (fun (W : World) (hx : Ext wr W) => putGone_any (box_ext HBq.out hx).go (rmk_of' (hpp.ext gStp hx) ick) (putGs_sorted HFT.out.1.2.1) (Nat.le_trans (putGs_len _ _) (by have h3 := HFT.out.2.2; rw [List.length_take]; omega)))
            have hbmq : bm < wr.heap.size := hbm
            clear ekm ick hpp
            go_wp2_with fail
            refine wp_region_tail 6 fol (by kernel_rfl) (fun W hW => ?_)
            subst hW
            simp only [List.take_succ_cons, List.take_zero, List.drop_succ_cons, List.drop_zero]
            repeat (go_big_quiet_step (fail))
            refine wpQuiet_nil ?_
            go_wp2_with (first | (go_at_call 80; go_must ((with_reducible refine (HPG.out _ (by repeat (first | (with_reducible exact ext_refl _) | (with_reducible assumption) | (with_reducible refine ext_drew ?_) | (with_reducible refine ext_drewN ?_ _) | (with_reducible refine ext_alloc ?_ _) | (with_reducible refine ext_set ?_ (by first | omega | (simp <;> omega)) _) | (with_reducible refine ext_trans ?_ (by with_reducible assumption))))).mono ?_); rintro e w5 ⟨v5, rfl, hv5, hx5⟩; obtain ⟨a5, n5, c5, rfl⟩ := hv5.slice; have HV5 := Lib.hid hv5; have HB5 := Lib.hid (box_ext HBq.out (ext_trans (by repeat (first | (with_reducible exact ext_refl _) | (with_reducible assumption) | (with_reducible refine ext_drew ?_) | (with_reducible refine ext_drewN ?_ _) | (with_reducible refine ext_alloc ?_ _) | (with_reducible refine ext_set ?_ (by first | omega | (simp <;> omega)) _) | (with_reducible refine ext_trans ?_ (by with_reducible assumption)))) hx5)); have HR5 := Lib.hid (box_ext HRq.out (ext_trans (by repeat (first | (with_reducible exact ext_refl _) | (with_reducible assumption) | (with_reducible refine ext_drew ?_) | (with_reducible refine ext_drewN ?_ _) | (with_reducible refine ext_alloc ?_ _) | (with_reducible refine ext_set ?_ (by first | omega | (simp <;> omega)) _) | (with_reducible refine ext_trans ?_ (by with_reducible assumption)))) hx5)); have HX5 := Lib.hid (ext_trans HXq.out (ext_trans (by repeat (first | (with_reducible exact ext_refl _) | (with_reducible assumption) | (with_reducible refine ext_drew ?_) | (with_reducible refine ext_drewN ?_ _) | (with_reducible refine ext_alloc ?_ _) | (with_reducible refine ext_set ?_ (by first | omega | (simp <;> omega)) _) | (with_reducible refine ext_trans ?_ (by with_reducible assumption)))) hx5)); have HM5 := Lib.hid (HMq.out.ext gMk (ext_trans (by repeat (first | (with_reducible exact ext_refl _) | (with_reducible assumption) | (with_reducible refine ext_drew ?_) | (with_reducible refine ext_drewN ?_ _) | (with_reducible refine ext_alloc ?_ _) | (with_reducible refine ext_set ?_ (by first | omega | (simp <;> omega)) _) | (with_reducible refine ext_trans ?_ (by with_reducible assumption)))) hx5)); have q0 := HB5.out.c0; have q1 := HB5.out.c1; have qf0 := HB5.out.fz 0; have qf1 := HB5.out.fz 1; clear hv5 hx5)))
            go_roundw
            case rel => exact ⟨k + 1, _, by omega, by go_num, Lib.hid (by rw [HEX.out]; exact box_set1 (t := (t.1, putGs t.2 (ms.take k))) HB5.out HV5.out), Lib.hid (box_other HR5.out (show w.heap.size ≠ w.heap.size + 1 by omega) HB5.out.sl _ _ _ _), Lib.hid (ext_set HX5.out (Nat.le_refl _) _), Lib.hid (HM5.out.keep gMk (keeps_set keeps_refl (fun _ h => by have h' : w.heap.size + 2 ≤ w.heap.size := h; omega) _))⟩
            case measure => simp [intOf]; omega
          · obtain rfl : k = ms.length := by omega
            have HTK := Lib.hid (fun (W : World) (hx : Ext wr W) => takeOf_any (box_ext HBq.out hx).at_ (HMq.out.ext gMk hx) HFT.out.2.1)
            have HBq2 := Lib.hid (show BoxIs w.heap.size (t.1, putGs t.2 ms) wr (.slice aa na ca) (.slice au nu cu) by have := HBq.out; rwa [List.take_of_length_le (Nat.le_refl _)] at this)
            obtain rfl : nu = (putGs t.2 ms).length := HBq2.out.go.len.1
            by_cases g3 : 300 < (takeA t.1 ms).length
            · have HNN := Lib.hid (HN1.out (by simp only [tooMuch, Bool.or_eq_true, decide_eq_true_eq]; omega))
              have g1 : decide ((300 : Int) < ((takeA t.1 ms).length : Int)) = true := decide_eq_true (by omega)
              have g2 : decide (300 < (takeA t.1 ms).length) = true := decide_eq_true g3
              go_wp2_with (first | (go_at_call 82; go_must ((with_reducible refine (HTK.out _ (by repeat (first | (with_reducible exact ext_refl _) | (with_reducible assumption) | (with_reducible refine ext_drew ?_) | (with_reducible refine ext_drewN ?_ _) | (with_reducible refine ext_alloc ?_ _) | (with_reducible refine ext_set ?_ (by first | omega | (simp <;> omega)) _) | (with_reducible refine ext_trans ?_ (by with_reducible assumption))))).mono ?_); rintro e w6 ⟨v6, rfl, hv6, hx6⟩; obtain ⟨a6, n6, c6, rfl⟩ := hv6.slice; obtain rfl : n6 = (takeA t.1 ms).length := hv6.len.1; have hb6 := box_ext HBq2.out (ext_trans (by repeat (first | (with_reducible exact ext_refl _) | (with_reducible assumption) | (with_reducible refine ext_drew ?_) | (with_reducible refine ext_drewN ?_ _) | (with_reducible refine ext_alloc ?_ _) | (with_reducible refine ext_set ?_ (by first | omega | (simp <;> omega)) _) | (with_reducible refine ext_trans ?_ (by with_reducible assumption)))) hx6); have q0 := hb6.c0; have q1 := hb6.c1; have qf0 := hb6.fz 0; have HR6 := box_ext HRq.out (ext_trans (by repeat (first | (with_reducible exact ext_refl _) | (with_reducible assumption) | (with_reducible refine ext_drew ?_) | (with_reducible refine ext_drewN ?_ _) | (with_reducible refine ext_alloc ?_ _) | (with_reducible refine ext_set ?_ (by first | omega | (simp <;> omega)) _) | (with_reducible refine ext_trans ?_ (by with_reducible assumption)))) hx6); have HBF := Lib.hid (show BoxIs w.heap.size (takeA t.1 ms, putGs t.2 ms) (w6.setCell ⟨w.heap.size, 0, none⟩ (.slice a6 (takeA t.1 ms).length c6)) (.slice a6 (takeA t.1 ms).length c6) (.slice au (putGs t.2 ms).length cu) from box_set0 hb6 hv6); have HRF := Lib.hid (box_other HR6 (show w.heap.size ≠ w.heap.size + 1 by omega) hb6.sl 0 a6 (takeA t.1 ms).length c6); have HXF := Lib.hid (ext_set (ext_trans HXq.out (ext_trans (by repeat (first | (with_reducible exact ext_refl _) | (with_reducible assumption) | (with_reducible refine ext_drew ?_) | (with_reducible refine ext_drewN ?_ _) | (with_reducible refine ext_alloc ?_ _) | (with_reducible refine ext_set ?_ (by first | omega | (simp <;> omega)) _) | (with_reducible refine ext_trans ?_ (by with_reducible assumption)))) hx6)) (show w.heap.size ≤ w.heap.size from Nat.le_refl _) (.slice a6 (takeA t.1 ms).length c6) (p := ⟨w.heap.size, 0, none⟩)); have r0 := HR6.c0; have r1 := HR6.c1; have rf0 := HR6.fz 0; have rf1 := HR6.fz 1; have hs6 := hb6.lt; have hs6r := HR6.lt; clear hv6 hb6 HR6)))
              refine bodyPost_ret (v := .tuple #[.agg #[.slice none 0 0, .slice none 0 0], .bool false]) (by simp [results, Try.results36, go_sem, r0, r1]) rfl (by rw [HNN.out]; exact ⟨rfl, ext_set (ext_set HXF.out (by show w.heap.size ≤ w.heap.size + 1; omega) _) (by show w.heap.size ≤ w.heap.size + 1; omega) _⟩)
            · by_cases g6 : 600 < (putGs t.2 ms).length
              · have HNN := Lib.hid (HN1.out (by simp only [tooMuch, Bool.or_eq_true, decide_eq_true_eq]; omega))
                have g1 : decide ((300 : Int) < ((takeA t.1 ms).length : Int)) = false := decide_eq_false (by omega)
                have g2 : decide (300 < (takeA t.1 ms).length) = false := decide_eq_false g3
                have g4 : decide ((600 : Int) < ((putGs t.2 ms).length : Int)) = true := decide_eq_true (by omega)
                have g5 : decide (600 < (putGs t.2 ms).length) = true := decide_eq_true g6
                go_wp2_with (first | (go_at_call 82; go_must ((with_reducible refine (HTK.out _ (by repeat (first | (with_reducible exact ext_refl _) | (with_reducible assumption) | (with_reducible refine ext_drew ?_) | (with_reducible refine ext_drewN ?_ _) | (with_reducible refine ext_alloc ?_ _) | (with_reducible refine ext_set ?_ (by first | omega | (simp <;> omega)) _) | (with_reducible refine ext_trans ?_ (by with_reducible assumption))))).mono ?_); rintro e w6 ⟨v6, rfl, hv6, hx6⟩; obtain ⟨a6, n6, c6, rfl⟩ := hv6.slice; obtain rfl : n6 = (takeA t.1 ms).length := hv6.len.1; have hb6 := box_ext HBq2.out (ext_trans (by repeat (first | (with_reducible exact ext_refl _) | (with_reducible assumption) | (with_reducible refine ext_drew ?_) | (with_reducible refine ext_drewN ?_ _) | (with_reducible refine ext_alloc ?_ _) | (with_reducible refine ext_set ?_ (by first | omega | (simp <;> omega)) _) | (with_reducible refine ext_trans ?_ (by with_reducible assumption)))) hx6); have q0 := hb6.c0; have q1 := hb6.c1; have qf0 := hb6.fz 0; have HR6 := box_ext HRq.out (ext_trans (by repeat (first | (with_reducible exact ext_refl _) | (with_reducible assumption) | (with_reducible refine ext_drew ?_) | (with_reducible refine ext_drewN ?_ _) | (with_reducible refine ext_alloc ?_ _) | (with_reducible refine ext_set ?_ (by first | omega | (simp <;> omega)) _) | (with_reducible refine ext_trans ?_ (by with_reducible assumption)))) hx6); have HBF := Lib.hid (show BoxIs w.heap.size (takeA t.1 ms, putGs t.2 ms) (w6.setCell ⟨w.heap.size, 0, none⟩ (.slice a6 (takeA t.1 ms).length c6)) (.slice a6 (takeA t.1 ms).length c6) (.slice au (putGs t.2 ms).length cu) from box_set0 hb6 hv6); have HRF := Lib.hid (box_other HR6 (show w.heap.size ≠ w.heap.size + 1 by omega) hb6.sl 0 a6 (takeA t.1 ms).length c6); have HXF := Lib.hid (ext_set (ext_trans HXq.out (ext_trans (by repeat (first | (with_reducible exact ext_refl _) | (with_reducible assumption) | (with_reducible refine ext_drew ?_) | (with_reducible refine ext_drewN ?_ _) | (with_reducible refine ext_alloc ?_ _) | (with_reducible refine ext_set ?_ (by first | omega | (simp <;> omega)) _) | (with_reducible refine ext_trans ?_ (by with_reducible assumption)))) hx6)) (show w.heap.size ≤ w.heap.size from Nat.le_refl _) (.slice a6 (takeA t.1 ms).length c6) (p := ⟨w.heap.size, 0, none⟩)); have r0 := HR6.c0; have r1 := HR6.c1; have rf0 := HR6.fz 0; have rf1 := HR6.fz 1; have hs6 := hb6.lt; have hs6r := HR6.lt; clear hv6 hb6 HR6)))
                refine bodyPost_ret (v := .tuple #[.agg #[.slice none 0 0, .slice none 0 0], .bool false]) (by simp [results, Try.results36, go_sem, r0, r1]) rfl (by rw [HNN.out]; exact ⟨rfl, ext_set (ext_set HXF.out (by show w.heap.size ≤ w.heap.size + 1; omega) _) (by show w.heap.size ≤ w.heap.size + 1; omega) _⟩)
              · have HNN := Lib.hid (HN2.out (by simp only [tooMuch, Bool.or_eq_false_iff, decide_eq_false_iff_not]; omega))
                have g1 : decide ((300 : Int) < ((takeA t.1 ms).length : Int)) = false := decide_eq_false (by omega)
                have g2 : decide (300 < (takeA t.1 ms).length) = false := decide_eq_false g3
                have g4 : decide ((600 : Int) < ((putGs t.2 ms).length : Int)) = false := decide_eq_false (by omega)
                have g5 : decide (600 < (putGs t.2 ms).length) = false := decide_eq_false g6
                go_wp2_with (first | (go_at_call 82; go_must ((with_reducible refine (HTK.out _ (by repeat (first | (with_reducible exact ext_refl _) | (with_reducible assumption) | (with_reducible refine ext_drew ?_) | (with_reducible refine ext_drewN ?_ _) | (with_reducible refine ext_alloc ?_ _) | (with_reducible refine ext_set ?_ (by first | omega | (simp <;> omega)) _) | (with_reducible refine ext_trans ?_ (by with_reducible assumption))))).mono ?_); rintro e w6 ⟨v6, rfl, hv6, hx6⟩; obtain ⟨a6, n6, c6, rfl⟩ := hv6.slice; obtain rfl : n6 = (takeA t.1 ms).length := hv6.len.1; have hb6 := box_ext HBq2.out (ext_trans (by repeat (first | (with_reducible exact ext_refl _) | (with_reducible assumption) | (with_reducible refine ext_drew ?_) | (with_reducible refine ext_drewN ?_ _) | (with_reducible refine ext_alloc ?_ _) | (with_reducible refine ext_set ?_ (by first | omega | (simp <;> omega)) _) | (with_reducible refine ext_trans ?_ (by with_reducible assumption)))) hx6); have q0 := hb6.c0; have q1 := hb6.c1; have qf0 := hb6.fz 0; have HR6 := box_ext HRq.out (ext_trans (by repeat (first | (with_reducible exact ext_refl _) | (with_reducible assumption) | (with_reducible refine ext_drew ?_) | (with_reducible refine ext_drewN ?_ _) | (with_reducible refine ext_alloc ?_ _) | (with_reducible refine ext_set ?_ (by first | omega | (simp <;> omega)) _) | (with_reducible refine ext_trans ?_ (by with_reducible assumption)))) hx6); have HBF := Lib.hid (show BoxIs w.heap.size (takeA t.1 ms, putGs t.2 ms) (w6.setCell ⟨w.heap.size, 0, none⟩ (.slice a6 (takeA t.1 ms).length c6)) (.slice a6 (takeA t.1 ms).length c6) (.slice au (putGs t.2 ms).length cu) from box_set0 hb6 hv6); have HRF := Lib.hid (box_other HR6 (show w.heap.size ≠ w.heap.size + 1 by omega) hb6.sl 0 a6 (takeA t.1 ms).length c6); have HXF := Lib.hid (ext_set (ext_trans HXq.out (ext_trans (by repeat (first | (with_reducible exact ext_refl _) | (with_reducible assumption) | (with_reducible refine ext_drew ?_) | (with_reducible refine ext_drewN ?_ _) | (with_reducible refine ext_alloc ?_ _) | (with_reducible refine ext_set ?_ (by first | omega | (simp <;> omega)) _) | (with_reducible refine ext_trans ?_ (by with_reducible assumption)))) hx6)) (show w.heap.size ≤ w.heap.size from Nat.le_refl _) (.slice a6 (takeA t.1 ms).length c6) (p := ⟨w.heap.size, 0, none⟩)); have r0 := HR6.c0; have r1 := HR6.c1; have rf0 := HR6.fz 0; have rf1 := HR6.fz 1; have hs6 := hb6.lt; have hs6r := HR6.lt; clear hv6 hb6 HR6)))
                go_roundw
                case rel => exact ⟨i + 1, _, _, _, by omega, by go_num, HNN, HBF, HRF, HXF⟩
                case measure => simp [intOf]; omega
    · obtain rfl : i = l.length := by omega
      have HTT := Lib.hid (show doDs s l = some t by have := HT.out; rwa [List.take_of_length_le (Nat.le_refl _)] at this)
      obtain ⟨aa, na, ca, rfl⟩ := HBX.out.at_.slice
      obtain ⟨au, nu, cu, rfl⟩ := HBX.out.go.slice
      have p0 := HBX.out.c0
      have p1 := HBX.out.c1
      have r0 := HRX.out.c0
      have r1 := HRX.out.c1
      have rf0 := HRX.out.fz 0
      have rf1 := HRX.out.fz 1
      go_wp2_with fail
      refine bodyPost_ret (v := .tuple #[.agg #[.slice aa na ca, .slice au nu cu], .bool true]) (by simp [results, Try.results36, go_sem, r0, r1]) rfl (by
        rw [HTT.out]
        have hb1 := box_other HBX.out (show w.heap.size + 1 ≠ w.heap.size by omega) HRX.out.sl 0 aa na ca
        have hr1 := slices_set HRX.out.sl ⟨w.heap.size + 1, 0, none⟩ aa na ca
        have hb2 := box_other hb1 (show w.heap.size + 1 ≠ w.heap.size by omega) hr1 1 au nu cu
        exact ⟨_, _, rfl, hb2.at_, hb2.go, ext_set (ext_set HX.out (by show w.heap.size ≤ w.heap.size + 1; omega) _) (by show w.heap.size ≤ w.heap.size + 1; omega) _⟩)
end Go.Proofs.Ytfgfdohppgoajaa
