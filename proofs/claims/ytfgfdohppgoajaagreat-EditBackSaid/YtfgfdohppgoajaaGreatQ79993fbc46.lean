/- IsPut, of what Put makes. -/
import Derived.Test.YtfgfdohppgoajaaGreatQb0078bfaef
import Derived.Test.YtfgfdohppgoajaaGreatQdc9449e99d
import Derived.Test.YtfgfdohppgoajaaGreatQ1b6d22da0e
import Derived.Test.YtfgfdohppgoajaaGreatQebf1797204
import Derived.Test.YtfgfdohppgoajaaGreatQc319e4a0fb
import Derived.Test.YtfgfdohppgoajaaGreatQ0735d7eff0
import Derived.Test.YtfgfdohppgoajaaGreatQac5d74833f
import Derived.Test.YtfgfdohppgoajaaGreatQ8ebb1f5718
import Derived.Test.YtfgfdohppgoajaaGreatQ5ab4d67304
set_option linter.unusedVariables false
set_option linter.unusedSimpArgs false
namespace Go.Proofs.YtfgfdohppgoajaaGreat
open Go Go.RowKit Go.BigFrame Cp

theorem checkD_put {r : Rn} (h : checkR r = 0) : checkD (putDe r) = 0 := by
  unfold checkD
  rw [if_pos (show (putDe r).kind = 1 from rfl), if_neg (by rw [show (putDe r).run = r from rfl, h]; simp), if_neg (by simp [putDe, noneM])]
theorem flat_snoc {rs : List Rn} {i : Nat} {r : Rn} (h : rs[i]? = some r) : (rs.take (i + 1)).flatMap atomsR = (rs.take i).flatMap atomsR ++ atomsR r := by
  obtain ⟨h1, h2⟩ := List.getElem?_eq_some_iff.1 h
  rw [List.take_succ_eq_append_getElem h1, h2, List.flatMap_append]; simp
theorem flat_len {rs : List Rn} {zs : List At} (h : rs.flatMap atomsR = zs) (i : Nat) : ((rs.take i).flatMap atomsR).length ≤ zs.length := by
  have e : rs.flatMap atomsR = (rs.take i).flatMap atomsR ++ (rs.drop i).flatMap atomsR := by rw [← List.flatMap_append, List.take_append_drop]
  rw [← h, e, List.length_append]; omega
theorem atP_len {a b : Nat} (h : a ≤ 300) (hb : b ≤ 60) : a + b ≤ maxLen := Nat.le_trans (by omega : a + b ≤ 360) (by unfold maxLen; decide)
theorem atP_byt {a b : Nat} (h : a ≤ 300) (hb : b ≤ 60) : (a + b) * 40 ≤ 140737488355328 := by omega
theorem bytes_of {a : List UInt8} {b : ByteArray} (h : a = b.data.toList) : (⟨a.toArray⟩ : ByteArray) = b := by subst h; exact tx_back b
theorem put_str {la zs : List At} {u : ByteArray} {k : Nat} (hl : zs.length = u.size) (hz : ∀ (i : Nat) (a : At), zs[i]? = some a → u.data.toList[i]? = some a.2) :
    (⟨(textA (List.take k la ++ zs ++ List.drop k la)).toArray⟩ : ByteArray) = (⟨(textA la).toArray⟩ : ByteArray).extract 0 k ++ u ++ (⟨(textA la).toArray⟩ : ByteArray).extract k (⟨(textA la).toArray⟩ : ByteArray).size := by
  apply bytes_of
  have e : textA zs = u.data.toList := by
    apply List.ext_getElem?
    intro i
    by_cases hi : i < zs.length
    · obtain ⟨a, ha⟩ : ∃ a, zs[i]? = some a := ⟨_, List.getElem?_eq_getElem hi⟩
      rw [hz i a ha]; unfold textA; rw [List.getElem?_map, ha]; rfl
    · rw [List.getElem?_eq_none (by unfold textA; simpa using hi), List.getElem?_eq_none (by simp; omega)]
  rw [put_tx, ← e]
  unfold textA
  simp [List.map_append, List.map_take, List.map_drop]
theorem textA_size (l : List At) : (⟨(textA l).toArray⟩ : ByteArray).size = l.length := by show (textA l).toArray.size = _; unfold textA; simp
set_option maxRecDepth 100000 in
set_option maxHeartbeats 4000000 in
theorem isPut_any {F G : Nat → Prop} {w : World} {cs : List Value} {s : St} {x : Value} {k : Nat} {site clock : Int} {u : ByteArray} (h : RSt F w cs s) (hl : RSl RDe 7 G w x (putV s k u.data.toList site clock)) (hE : putE s k u.data.toList site clock = 0) :
    Calls Tryz.prog 36 #[.agg cs.toArray, .int .i64 k, .string u, .int .i64 site, .int .i64 clock, x] w fun e w' => e = .returned (.bool true) ∧ Ext w w' := by
  have hul : u.data.toList.length = u.size := by simp
  obtain ⟨hfs, ⟨k', hk1, hk⟩, _, hu60, hlu, _, _, _⟩ := putE_parts hE
  obtain rfl : k = k' := by omega
  obtain ⟨fl, fc, fv, ff, fr, fa, fd⟩ := put_facts hE
  rw [hul] at fl hu60 hlu
  generalize putV s k u.data.toList site clock = l at *
  generalize putAs s k u.data.toList site clock = zs at *
  have has : zs.length ≤ 60 := by omega
  have hrl : (runsA zs).length ≤ 60 := by have := runsA_few zs; omega
  have HRX := Lib.hid (fun (W : World) (G : Nat → Prop) (v : Value) (hv : RSl RAt 3 G W v zs) => runsOf_any hv fc)
  have HDO := Lib.hid (fun (W : World) (hx : Ext w W) => doOf_any (gSt.ext h hx) (hl.ext gDe hx) hfs (fun d hd => by rw [fv] at hd; obtain ⟨r, hr, rfl⟩ := List.mem_map.1 hd; exact checkD_put (fr r hr)))
  rw [fd] at HDO
  generalize runsA zs = rs at *
  have hll : l.length = rs.length := by rw [fv, List.length_map]
  have hrun : l.map (·.run) = rs := by rw [fv, List.map_map]; exact List.map_id' rs
  have HRI := Lib.hid (fun (W : World) (hx : Ext w W) => (show Calls Tryz.prog 80 #[x] W (IsRunsX rs W) by have := runsIn_any (hl.ext gDe hx) (show l.length ≤ 300 by omega); rwa [hrun] at this))
  have HFL := Lib.hid ff
  have HFLN := Lib.hid (fun i => flat_len ff i)
  have HFR := Lib.hid fr
  have HFV := Lib.hid fv
  have HFA := Lib.hid fa
  have HL := Lib.hid (show RSl RDe 7 (fun j => j < w.heap.size) w x l from RSl.more gDe (fun _ _ hk => hk) hl)
  obtain ⟨v, y, rfl, h1, h2⟩ := h
  obtain ⟨la, lg⟩ := s
  simp only at h1 h2 hk hlu HFA HDO
  have HLA := Lib.hid (fun (W : World) (hx : Ext w W) => h1.ext gAt hx)
  have HLG := Lib.hid (fun (W : World) (hx : Ext w W) => h2.ext gMk hx)
  obtain ⟨a0, n0, c0, rfl⟩ := h1.slice
  obtain ⟨a1, n1, c1, rfl⟩ := h2.slice
  obtain ⟨a2, n2, c2, rfl⟩ := hl.slice
  obtain rfl : n0 = la.length := h1.len.1
  obtain rfl : n1 = lg.length := h2.len.1
  obtain rfl : n2 = rs.length := hl.len.1.trans hll
  obtain ⟨j0, hj0, hy0, hy1, hy2⟩ := info_parts info_atom
  have HJA := Lib.hid hj0
  have HZA0 := Lib.hid hy0
  have HZA1 := Lib.hid hy1
  have HZA2 := Lib.hid hy2
  have HFE := Lib.hid fl
  have t0 : ((zs.length : Int) != (u.size : Int)) = false := by rw [fl]; simp
  clear fl hll
  clear h1 h2 hl hE fv ff fr fa fd fc hj0 hy0 hy1 hy2 hfs hk1 hrun hul
  go_enter Tryz.func36, Tryz.ntmps36
  go_wp2_with fail
  refine wp_name (fun wb ewb => ?_)
  have b0 : wb.cell? ⟨w.heap.size, 0, none⟩ = some (.slice a0 la.length c0) := by rw [ewb]; go_simp
  have b1 : wb.cell? ⟨w.heap.size, 1, none⟩ = some (.slice a1 lg.length c1) := by rw [ewb]; go_simp
  have HWB := Lib.hid (show Ext w wb by rw [ewb]; exact extA)
  have hbb : w.heap.size < wb.heap.size := World.block_lt_of_cell? _ _ b0
  clear ewb
  go_loopw [13, 14] (fun ov iv wr => ∃ i : Nat, i ≤ rs.length ∧ iv = .int .i64 i ∧ Hid (OSl RAt 3 83 wb.heap.size (fun j => wb.heap.size ≤ j) wr ov ((rs.take i).flatMap atomsR)) ∧ Hid (Ext wb wr)) (fun _ iv _ => rs.length - (intOf iv).toNat)
  case atStart => exact ⟨0, Nat.zero_le _, rfl, Lib.hid osl_nil, Lib.hid (ext_refl _)⟩
  case round =>
    obtain ⟨i, hi, rfl, HO, HXB⟩ := hrel
    have x0 := (HXB.out.cells _ _ hbb).trans b0
    have x1 := (HXB.out.cells _ _ hbb).trans b1
    have HX := Lib.hid (ext_trans HWB.out HXB.out)
    have hsr := HXB.out.size
    have hwr : w.heap.size < wr.heap.size := by omega
    have HOL := Lib.hid (osl_lt HO.out)
    obtain ⟨a6, n6, c6, rfl⟩ := osl_slice HO.out
    obtain rfl : n6 = ((rs.take i).flatMap atomsR).length := (osl_len HO.out).1
    have hm6 := HFLN.out i
    by_cases hlt : i < rs.length
    · obtain ⟨b, o, d, b1', m1, e1, b2', m2, e2, sx, rfl, hb, ek, hde, u0, u1, u2, u3, u4, u5, u6⟩ := deed_at (HL.out.ext gDe HX.out) hlt
      obtain ⟨r, hr, rfl⟩ : ∃ r, rs[i]? = some r ∧ d = putDe r := by
        have e := ek
        rw [HFV.out, List.getElem?_map] at e
        cases hh : rs[i]? with
        | none => rw [hh] at e; cases e
        | some r => rw [hh] at e; exact ⟨r, rfl, (Option.some.inj e).symm⟩
      have hrr := HFR.out r (List.mem_of_getElem? hr)
      have HCD := Lib.hid (fun (W : World) (hx : Ext wr W) => (show Calls Tryz.prog 64 #[.agg #[.int .i64 1, .slice b1' m1 e1, .int .i64 r.1.2, .string sx, .slice b2' m2 e2, .int .i64 0, .int .i64 0]] W (fun e w' => e = .returned (.int .i64 (checkD (putDe r))) ∧ Ext W w') from checkDeed_any (gDe.ext hde hx)))
      rw [checkD_put hrr] at HCD
      obtain ⟨q1, q2, q3, he, _, k1, k2, k3, _, _, _⟩ := hde
      injection he with he0 he
      injection he with he1 he
      injection he with he2 he
      injection he with he3 he
      subst he1
      subst he3
      have HAO := Lib.hid (fun (W : World) (hx : Ext wr W) => (show Calls Tryz.prog 78 #[.agg #[.slice b1' m1 e1, .int .i64 r.1.2, .string sx]] W (IsAtoms (atomsR r) W) from atomsOf_any (r := r) ⟨_, _, rfl, k1.ext gStp hx, k2, k3⟩ hrr))
      have hsn := flat_snoc hr
      have hal : (atomsR r).length ≤ 60 := by rw [atomsR_len]; exact (checkR_parts hrr).2.2.1
      have u0' : wr.cell? ⟨b, o + i * 7, none⟩ = some (.int .i64 1) := u0
      have u2' : wr.cell? ⟨b, o + i * 7 + 2, none⟩ = some (.int .i64 r.1.2) := u2
      have u5' : wr.cell? ⟨b, o + i * 7 + 5, none⟩ = some (.int .i64 0) := u5
      have u6' : wr.cell? ⟨b, o + i * 7 + 6, none⟩ = some (.int .i64 0) := u6
      have hbr : b < wr.heap.size := hb
      clear u0 u2 u5 u6 ek hr hrr he he0 he2 k1 k2 k3
      generalize (rs.take i).flatMap atomsR = ms at *
      generalize atomsR r = ar at *
      generalize r.1.2 = rc at *
      go_wp2_with (first | (go_at_call 64; go_must ((with_reducible refine (HCD.out _ extA).mono ?_); rintro e w1 ⟨rfl, hx1⟩; have hs1 := hx1.size; (try simp at hs1); have p0 := (hx1.cells (b) (o + i * 7 + 1) (by first | omega | (simp <;> omega))).trans (show _ = some (.slice b1' m1 e1) by first | assumption | go_simp); have p1 := (hx1.cells (b) (o + i * 7 + 2) (by first | omega | (simp <;> omega))).trans (show _ = some (.int .i64 rc) by first | assumption | go_simp); have p2 := (hx1.cells (b) (o + i * 7 + 3) (by first | omega | (simp <;> omega))).trans (show _ = some (.string sx) by first | assumption | go_simp); have HX1 := Lib.hid (show Ext wr w1 from ext_trans extA hx1))) | (go_at_call 78; go_must ((with_reducible refine (HAO.out _ (ext_trans HX1.out extA)).mono ?_); rintro e w2 ⟨v2, rfl, hv2, hx2⟩; obtain ⟨a7, n7, c7, rfl⟩ := hv2.slice; obtain rfl : n7 = ar.length := hv2.len.1; have HV2 := Lib.hid hv2; have HX2 := Lib.hid (show Ext wr w2 from ext_trans (ext_trans HX1.out extA) hx2); clear hv2)) | (at_builtin; go_must (refine wpList_appAll gAt rfl (.tmp 40) (.tmp 46) 22 rfl wb.heap.size 83 j0 _ 3 40 Tryz.underlying22 HJA.out HZA0.out HZA1.out HZA2.out rfl (by omega) (F := fun j => wb.heap.size ≤ j) (G := fun j => w1.heap.size ≤ j) (.slice a6 ms.length c6) ms rfl (osl_ext gAt HO.out (ext_trans HX2.out extA)) (.slice a7 ar.length c7) ar rfl (HV2.out.ext gAt extA) one_at (fun j hj _ => ⟨by have := HX1.out.size; omega, fun e => by have := HOL.out j e.symm; have := HX1.out.size; omega⟩) (atP_len (by omega) hal) (atP_byt (by omega) hal) (by have := HX2.out.size; first | omega | (simp <;> omega)) ?_; intro v9 w9 hown9 hg9 hat9; obtain ⟨a9, n9, c9, rfl⟩ := osl_slice hown9; have HX9 := Lib.hid (show Ext wb w9 from ext_grow (ext_trans HXB.out (ext_trans HX2.out extA)) hg9 (fun j hj => (HOL.out j hj).1)); have HV9 := Lib.hid hown9)))
      go_roundw
      case rel => exact ⟨i + 1, by omega, by go_num, Lib.hid (by rw [hsn]; exact HV9.out), HX9⟩
      case measure => simp [intOf]; omega
    · obtain rfl : i = rs.length := by omega
      have hzz : (rs.take rs.length).flatMap atomsR = zs := by rw [List.take_of_length_le (Nat.le_refl _)]; exact HFL.out
      rw [hzz] at HO HOL hm6 ⊢
      have HZ := Lib.hid (show RSl RAt 3 (fun j => j < wr.heap.size) wr (.slice a6 zs.length c6) zs from RSl.more gAt (fun _ _ hl => hl) (osl_rsl gAt HO.out (G := fun _ => True) (fun _ _ _ => trivial) (fun _ _ => trivial)))
      clear HO HOL hm6 hzz HFL HFLN HFR HFV
      go_wp2_with (first | (go_at_call 79; go_must ((with_reducible refine (HRX.out _ _ _ (HZ.out.ext gAt extA)).mono ?_); rintro e w3 ⟨v3, rfl, hv3, hx3⟩; have hs3 := hx3.size; (try simp at hs3); obtain ⟨a3, n3, c3, rfl⟩ := hv3.slice; have HV3 := Lib.hid hv3; have r0 := (hx3.cells (w.heap.size) (0) (by first | omega | (simp <;> omega))).trans (show _ = some (.slice a0 la.length c0) by first | assumption | go_simp); have r1 := (hx3.cells (w.heap.size) (1) (by first | omega | (simp <;> omega))).trans (show _ = some (.slice a1 lg.length c1) by first | assumption | go_simp); have HX3 := Lib.hid (show Ext wr w3 from ext_trans extA hx3); clear hv3)) | (go_at_call 80; go_must ((with_reducible refine (HRI.out _ (ext_trans HX.out (ext_trans HX3.out extA))).mono ?_); rintro e w4 ⟨v4, rfl, hv4, hx4⟩; have hs4 := hx4.size; (try simp at hs4); obtain ⟨a4, n4, c4, rfl⟩ := hv4.slice; have HV4 := Lib.hid hv4; have s0 := (hx4.cells (w.heap.size) (0) (by first | omega | (simp <;> omega))).trans (show _ = some (.slice a0 la.length c0) by first | assumption | go_simp); have s1 := (hx4.cells (w.heap.size) (1) (by first | omega | (simp <;> omega))).trans (show _ = some (.slice a1 lg.length c1) by first | assumption | go_simp); have HX4 := Lib.hid (show Ext wr w4 from ext_trans (ext_trans HX3.out extA) hx4); clear hv4)) | (go_at_call 56; go_must ((with_reducible refine (sameRuns_any (HV3.out.ext gRn (ext_trans hx4 extA)) (HV4.out.ext gRn extA)).mono ?_); rintro e w5 ⟨rfl, hx5⟩; have hs5 := hx5.size; (try simp at hs5); have t0 := (hx5.cells (w.heap.size) (0) (by first | omega | (simp <;> omega))).trans (show _ = some (.slice a0 la.length c0) by first | assumption | go_simp); have t1 := (hx5.cells (w.heap.size) (1) (by first | omega | (simp <;> omega))).trans (show _ = some (.slice a1 lg.length c1) by first | assumption | go_simp); have HX5 := Lib.hid (show Ext wr w5 from ext_trans (ext_trans HX4.out extA) hx5))))
      refine wp_name (fun wc ewc => ?_)
      have d0 : wc.cell? ⟨w.heap.size, 0, none⟩ = some (.slice a0 la.length c0) := by rw [ewc]; go_simp
      have d1 : wc.cell? ⟨w.heap.size, 1, none⟩ = some (.slice a1 lg.length c1) := by rw [ewc]; go_simp
      have HXR := Lib.hid (show Ext wr wc by rw [ewc]; exact ext_trans HX5.out extA)
      have hcb : w.heap.size < wc.heap.size := World.block_lt_of_cell? _ _ d0
      clear ewc HV3 HV4 HX3 HX4 HX5 hx3 hx4 hx5 r0 r1 s0 s1 t1 x0 x1 HRX HRI b0 b1
      obtain ⟨W0, hW0⟩ : ∃ W0 : World, W0 = wr := ⟨_, rfl⟩
      have HXC := Lib.hid (show Ext w wc from ext_trans HX.out HXR.out)
      have HZC := Lib.hid (show RSl RAt 3 (fun _ => True) wc (.slice a6 zs.length c6) zs from RSl.more gAt (fun _ _ _ => trivial) (HZ.out.ext gAt HXR.out))
      clear HX HXR HXB HWB HZ hsr hwr hW0
      go_loopw [15] (fun iv wr => ∃ i : Nat, i ≤ zs.length ∧ iv = .int .i64 i ∧ Hid (Ext wc wr)) (fun iv _ => zs.length - (intOf iv).toNat)
      case atStart => exact ⟨0, Nat.zero_le _, rfl, Lib.hid (ext_refl _)⟩
      case round =>
        obtain ⟨i, hi2, rfl, HXD⟩ := hrel
        have x0 := (HXD.out.cells _ _ hcb).trans d0
        have x1 := (HXD.out.cells _ _ hcb).trans d1
        have HX := Lib.hid (ext_trans HXC.out HXD.out)
        have hsr := HXD.out.size
        have hwr : w.heap.size < wr.heap.size := by omega
        by_cases hlt : i < zs.length
        · obtain ⟨b, o, p, d, sg, ap, cp, rfl, hb, ek, ick, hpp, y0, y1, y2⟩ := atm_at (HZC.out.ext gAt HXD.out) hlt
          obtain ⟨f1, f2, f3, f4, f5, f6⟩ := HFA.out i _ ek
          have hiu : i < u.size := by have := HFE.out; omega
          have hsg : u[i] = sg := by
            rw [List.getElem?_eq_getElem (by simpa using hiu)] at f2
            exact Option.some.inj f2
          simp only at f1 f3 f4 f5 f6
          have HLS := Lib.hid (fun (W : World) (hx : Ext wr W) => lastSite_any (rmk_of' (hpp.ext gStp hx) ick) f1)
          have HHM := Lib.hid (fun (W : World) (hx : Ext wr W) => hasMark_any (HLA.out W (ext_trans HX.out hx)) (rmk_of' (hpp.ext gStp hx) ick))
          have HHG := Lib.hid (fun (W : World) (hx : Ext wr W) => hasGone_any (HLG.out W (ext_trans HX.out hx)) (rmk_of' (hpp.ext gStp hx) ick))
          simp only [f3] at HLS
          rw [f5] at HHM
          rw [f6] at HHG
          have hcw : IntKind.i64.wrap (clock + (i : Int)) = d := by rw [← f4]; exact IntWalk.i64_in _ (by have := checkM_ok.1 f1; omega)
          have hbr : b < wr.heap.size := hb
          clear ek ick hpp f1 f2 f3 f5 f6 f4
          subst hsg
          go_wp2_with fail
          refine wp_name (fun W2 eW2 => ?_)
          have e0 : W2.cell? ⟨w.heap.size, 0, none⟩ = some (.slice a0 la.length c0) := by rw [eW2]; go_simp
          have e1 : W2.cell? ⟨w.heap.size, 1, none⟩ = some (.slice a1 lg.length c1) := by rw [eW2]; go_simp
          have e2 : W2.cell? ⟨b, o + i * 3, none⟩ = some (.slice ap p.length cp) := by rw [eW2]; go_simp
          have e3 : W2.cell? ⟨b, o + i * 3 + 1, none⟩ = some (.int .i64 d) := by rw [eW2]; go_simp
          have e4 : W2.cell? ⟨b, o + i * 3 + 2, none⟩ = some (.int .u8 (u[i]).toNat) := by rw [eW2]; go_simp
          have e5 : W2.cell? ⟨wr.heap.size, 0, none⟩ = some (.slice ap p.length cp) := by rw [eW2]; go_simp
          have e6 : W2.cell? ⟨wr.heap.size, 1, none⟩ = some (.int .i64 d) := by rw [eW2]; go_simp
          have zW2_0 : w.heap.size < W2.heap.size := by rw [eW2]; first | assumption | omega | (simp <;> omega)
          have zW2_1 : b < W2.heap.size := by rw [eW2]; first | assumption | omega | (simp <;> omega)
          have zW2_2 : wr.heap.size < W2.heap.size := by rw [eW2]; first | assumption | omega | (simp <;> omega)
          have hw2 : Ext wr W2 := by rw [eW2]; exact extA
          clear eW2
          refine wp_region_later fol (by kernel_rfl) (fun hlater => ?_)
          repeat (go_big_quiet_step ((first
              | (go_at_call 81; (with_reducible exact later_of (HLS.out _ (ext_trans hw2 (Later.ext _)))))
              | (go_at_call 82; (with_reducible exact later_of (HHM.out _ (ext_trans hw2 (Later.ext _)))))
              | (go_at_call 83; (with_reducible exact later_of (HHG.out _ (ext_trans hw2 (Later.ext _))))))))
          refine wpQuiet_nil ?_
          rintro W3 ⟨⟨w3x, hx3⟩, rfl⟩
          clear hlater
          go_wp2_with fail
          go_roundw
          case rel => exact ⟨i + 1, by omega, by go_num, Lib.hid (ext_trans HXD.out (ext_trans hw2 hx3))⟩
          case measure => simp [intOf]; omega
        · obtain rfl : i = zs.length := by omega
          have hT3 : (List.take k la ++ zs ++ List.drop k la).length ≤ 300 := by have := HFE.out; simp only [List.length_append, List.length_take, List.length_drop]; omega
          have HTX := Lib.hid (fun (W : World) (hx : Ext w W) => textOf_any (HLA.out W hx) (show la.length ≤ 300 by omega))
          have HTY := Lib.hid (fun (W : World) (F : Nat → Prop) (v : Value) (hv : RSl RAt 3 F W v (List.take k la ++ zs ++ List.drop k la)) => textOf_any hv hT3)
          rw [put_str HFE.out (fun i a h => (HFA.out i a h).2.1)] at HTY
          have hsz : (⟨(textA la).toArray⟩ : ByteArray).size = la.length := textA_size la
          clear hT3
          generalize (⟨(textA la).toArray⟩ : ByteArray) = S at *
          generalize List.take k la ++ zs ++ List.drop k la = la' at *
          have hkS : k ≤ S.size := by omega
          have hS3 : S.size ≤ 300 := by omega
          have HSZ := Lib.hid hsz
          clear hsz HFA HJA HZA0 HZA1 HZA2 HFE HZC t0
          go_wp2_with (first | (go_at_call 65; go_must ((with_reducible refine (HDO.out _ (ext_trans HX.out extA)).mono ?_); rintro e w6 hraw; obtain ⟨v6, y6, rfl, hv6, hy6, hx6⟩ := hraw; obtain ⟨a8, n8, c8, rfl⟩ := hv6.slice; obtain ⟨a9, n9, c9, rfl⟩ := hy6.slice; have HV6 := Lib.hid hv6; have hs6 := hx6.size; (try simp at hs6); have l6 : w.heap.size < w6.heap.size := (by omega); have q0 := (hx6.cells (w.heap.size) (0) (by first | omega | (simp <;> omega))).trans (show _ = some (.slice a0 la.length c0) by first | assumption | go_simp); have q1 := (hx6.cells (w.heap.size) (1) (by first | omega | (simp <;> omega))).trans (show _ = some (.slice a1 lg.length c1) by first | assumption | go_simp); have HX6 := Lib.hid (show Ext wr w6 from ext_trans extA hx6); clear hv6 hy6)) | (go_at_call 84; go_must ((with_reducible refine (HTX.out _ (ext_trans HX.out (ext_trans HX6.out extA))).mono ?_); rintro e w8 ⟨rfl, hx8⟩; have hs8 := hx8.size; (try simp at hs8); have q80 := (hx8.cells (w6.heap.size) (0) (by first | omega | (simp <;> omega))).trans (show _ = some (.slice a8 n8 c8) by first | assumption | go_simp))))
          refine wp_name (fun W5 eW5 => ?_)
          have e0 : W5.cell? ⟨w6.heap.size, 0, none⟩ = some (.slice a8 n8 c8) := by rw [eW5]; go_simp
          have z0 : w6.heap.size < W5.heap.size := World.block_lt_of_cell? _ _ e0
          have HV5 := Lib.hid (HV6.out.ext gAt (show Ext w6 W5 by rw [eW5]; exact ext_trans (ext_alloc (ext_refl _) _) extA))
          have hw5 : Ext wr W5 := by rw [eW5]; exact ext_trans HX6.out extA
          clear eW5
          refine wp_region_later fol (by kernel_rfl) (fun hlater => ?_)
          repeat (go_big_quiet_step ((go_at_call 84; (with_reducible exact later_of (HTY.out _ _ _ (HV5.out.ext gAt (Later.ext _)))))))
          refine wpQuiet_nil ?_
          rintro W7 ⟨⟨w7x, hx7⟩, rfl⟩
          clear hlater
          go_wp2_with fail
          go_ret
          exact ⟨rfl, ext_trans HX.out (ext_trans hw5 hx7)⟩
end Go.Proofs.YtfgfdohppgoajaaGreat
