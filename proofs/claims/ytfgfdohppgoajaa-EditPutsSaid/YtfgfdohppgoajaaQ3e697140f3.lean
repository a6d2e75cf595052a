/- CheckPut. -/
import Derived.Test.YtfgfdohppgoajaaQa2c46a3ff3
import Derived.Test.YtfgfdohppgoajaaQeebaae126f
import Derived.Test.YtfgfdohppgoajaaQf3c40d81ef
set_option linter.unusedVariables false
set_option linter.unusedSimpArgs false
namespace Go.Proofs.Ytfgfdohppgoajaa
open Go Go.RowKit Go.BigFrame Cp

theorem inB_inside {p : Int} {n : Nat} : inB p 0 n = insideB p 0 n := by
  unfold inB insideB
  by_cases h : 0 ≤ p
  · by_cases h2 : p ≤ n
    · rw [decide_eq_true h, decide_eq_true h2, decide_eq_true (by omega : (0:Int) ≤ 0), decide_eq_true (by omega : (0:Int) ≤ n - p)]; rfl
    · rw [decide_eq_true h, decide_eq_false h2, decide_eq_true (by omega : (0:Int) ≤ 0)]; rfl
  · rw [decide_eq_false h]; rfl
theorem usedA {s : St} {site clock : Int} (h : (s.1.any fun x => laterB site clock x.1) = true) : usedB s site clock = true := by unfold usedB; rw [h, Bool.or_true]
theorem usedG {s : St} {site clock : Int} (h : (s.2.any fun x => laterB site clock x) = true) : usedB s site clock = true := by unfold usedB; rw [h, Bool.true_or]
theorem insideF {p : Int} {n : Nat} (h : insideB p 0 n = true) : ∃ i : Nat, p = (i : Int) ∧ i ≤ n := by
  obtain ⟨i, j, h1, _, h2⟩ := inside_nat h
  exact ⟨i, h1, by omega⟩
set_option maxRecDepth 100000 in
set_option maxHeartbeats 4000000 in
theorem checkPut_any {F : Nat → Prop} {w : World} {cs : List Value} {s : St} {p site clock : Int} {u : ByteArray} (h : RSt F w cs s) (hu : u.size ≤ 140737488351232) (ic : I64 clock) :
    Calls Try.prog 31 #[.agg cs.toArray, .int .i64 p, .string u, .int .i64 site, .int .i64 clock] w fun e w' => e = .returned (.int .i64 (putE s p u.data.toList site clock)) ∧ Ext w w' := by
  have hul : u.data.toList.length = u.size := by simp
  have HCK := Lib.hid (fun (W : World) (hx : Ext w W) => checkState_any (gSt.ext h hx))
  have HSG := Lib.hid (fun (W : World) => areSigns_any u W (Nat.le_trans hu (by unfold maxLen; decide)))
  obtain ⟨v, x, rfl, h1, h2⟩ := h
  obtain ⟨la, lg⟩ := s
  simp only at h1 h2 HCK
  have HLA := Lib.hid (fun (W : World) (hx : Ext w W) => h1.ext gAt hx)
  have HLG := Lib.hid (fun (W : World) (hx : Ext w W) => h2.ext gMk hx)
  obtain ⟨a0, n0, c0, rfl⟩ := h1.slice
  obtain ⟨a1, n1, c1, rfl⟩ := h2.slice
  obtain rfl : n0 = la.length := h1.len.1
  obtain rfl : n1 = lg.length := h2.len.1
  clear h1 h2
  by_cases h0 : checkS (la, lg) = 0
  · have hfs := checkS_fit.1 h0
    have hn : la.length ≤ 300 := hfs.2.1
    have hn6 : lg.length ≤ 600 := hfs.2.2
    have HGK := Lib.hid hfs.1.2.2.1
    have HAK := Lib.hid (fun x hx => (hfs.1.1.2 x hx).1)
    clear hfs
    by_cases hi : insideB p 0 la.length = true
    · have HIN := Lib.hid (inB_inside.trans hi)
      obtain ⟨k, rfl, hk⟩ := insideF hi
      obtain ⟨er, her⟩ : ∃ er, er = putE (la, lg) k u.data.toList site clock := ⟨_, rfl⟩
      have HE4 := Lib.hid (show usedB (la, lg) site clock = true → er = 4 from fun h => by rw [her]; unfold putE; rw [if_neg (by simpa using h0), if_neg (by simp only [hi]; simp), if_pos h])
      have HER := Lib.hid (show usedB (la, lg) site clock = false → er = if 60 < u.size ∨ 300 < la.length + u.size then 2 else if u.data.toList = [] then 1 else if signsB u.data.toList = false then 3 else betweenErr (nearA la k) (nearB la k) site clock u.size from fun h => by rw [her]; unfold putE; rw [if_neg (by simpa using h0), if_neg (by simp only [hi]; simp), if_neg (by rw [h]; simp), hul, Int.toNat_natCast])
      rw [← her]
      rw [h0] at HCK
      clear her h0 hi
      go_enter Try.func31, Try.ntmps31
      go_wp2_with (first | (go_at_call 17; go_must ((with_reducible refine (HCK.out _ extA).mono ?_); rintro e w1 ⟨rfl, hx1⟩; have hs1 := hx1.size; (try simp at hs1); have l1 : w.heap.size < w1.heap.size := (by omega); have p0 := (hx1.cells (w.heap.size) 0 (by first | omega | (simp <;> omega))).trans (show _ = some (.slice a0 la.length c0) by first | assumption | go_simp); have p1 := (hx1.cells (w.heap.size) 1 (by first | omega | (simp <;> omega))).trans (show _ = some (.slice a1 lg.length c1) by first | assumption | go_simp); have HX1 := Lib.hid (show Ext w w1 from ext_trans extA hx1))) | (go_at_call 50; go_must ((with_reducible refine (between_any _ _ _ _).mono ?_); rintro e w9 ⟨rfl, rfl⟩; rw [HIN.out])))
      refine wp_name (fun wb ewb => ?_)
      have b0 : wb.cell? ⟨w.heap.size, 0, none⟩ = some (.slice a0 la.length c0) := by rw [ewb]; go_simp
      have b1 : wb.cell? ⟨w.heap.size, 1, none⟩ = some (.slice a1 lg.length c1) := by rw [ewb]; go_simp
      have HWB := Lib.hid (show Ext w wb by rw [ewb]; exact ext_trans HX1.out extA)
      have hbb : w.heap.size < wb.heap.size := World.block_lt_of_cell? _ _ b0
      clear ewb HX1 hx1 p0 p1 HIN HCK
      go_loopw [13] (fun iv wr => ∃ i : Nat, i ≤ la.length ∧ iv = .int .i64 i ∧ Hid ((la.take i).any (fun (x : At) => laterB site clock x.1) = false) ∧ Hid (Ext wb wr)) (fun iv _ => la.length - (intOf iv).toNat)
      case atStart => exact ⟨0, Nat.zero_le _, rfl, Lib.hid (by simp), Lib.hid (ext_refl _)⟩
      case round =>
        obtain ⟨i, hil, rfl, HN, HXB⟩ := hrel
        have x0 := (HXB.out.cells _ _ hbb).trans b0
        have x1 := (HXB.out.cells _ _ hbb).trans b1
        have HX := Lib.hid (ext_trans HWB.out HXB.out)
        have hsr := HXB.out.size
        have hwr : w.heap.size < wr.heap.size := by omega
        by_cases hlt : i < la.length
        · obtain ⟨b, o, p', d, u', ap, cp, rfl, hb, ek, ick, hpp, y0, y1, y2⟩ := atm_at (HLA.out wr HX.out) hlt
          have hcm := HAK.out _ (List.mem_of_getElem? ek)
          have HLS := Lib.hid (fun (W : World) (hx : Ext wr W) => lastSite_any (rmk_of' (hpp.ext gStp hx) ick) hcm)
          have HA := Lib.hid (anyp_step (p := fun (x : At) => laterB site clock x.1) ek)
          have hL : laterB site clock (p', d) = ((lastSite p' == site) && decide (clock ≤ d)) := rfl
          have hbr : b < wr.heap.size := hb
          have hwb' : w.heap.size < wb.heap.size := hbb
          clear ek ick hpp hcm
          simp only at HLS HA
          rw [hL] at HA
          generalize lastSite p' = ls at *
          clear hL
          cases g1 : (ls == site) with
          | false =>
            have HD := Lib.hid (show (la.take (i + 1)).any (fun (x : At) => laterB site clock x.1) = false by rw [HA.out, HN.out, g1]; rfl)
            go_wp2_with (first | (go_at_call 73; go_must ((with_reducible refine (HLS.out _ extA).mono ?_); rintro e w2 ⟨rfl, hx2⟩; have hs2 := hx2.size; (try simp at hs2); have l2_0 : w.heap.size < w2.heap.size := (by omega); have l2_1 : b < w2.heap.size := (by omega); have q0 := (hx2.cells (w.heap.size) (0) (by first | omega | (simp <;> omega))).trans (show _ = some (.slice (some ⟨b, o, none⟩) la.length c0) by first | assumption | go_simp); have q1 := (hx2.cells (w.heap.size) (1) (by first | omega | (simp <;> omega))).trans (show _ = some (.slice a1 lg.length c1) by first | assumption | go_simp); have q2 := (hx2.cells (b) (o + i * 3) (by first | omega | (simp <;> omega))).trans (show _ = some (.slice ap p'.length cp) by first | assumption | go_simp); have q3 := (hx2.cells (b) (o + i * 3 + 1) (by first | omega | (simp <;> omega))).trans (show _ = some (.int .i64 d) by first | assumption | go_simp))))
            go_roundw
            case rel => exact ⟨i + 1, by omega, by go_num, HD, Lib.hid (ext_trans HXB.out (ext_trans extA hx2))⟩
            case measure => simp [intOf]; omega
          | true =>
            have hse : ls = site := by simpa using g1
            cases g2 : decide (clock ≤ d) with
            | false =>
              have HD := Lib.hid (show (la.take (i + 1)).any (fun (x : At) => laterB site clock x.1) = false by rw [HA.out, HN.out, g1, g2]; rfl)
              clear hse
              go_wp2_with (first | (go_at_call 73; go_must ((with_reducible refine (HLS.out _ extA).mono ?_); rintro e w2 ⟨rfl, hx2⟩; have hs2 := hx2.size; (try simp at hs2); have l2_0 : w.heap.size < w2.heap.size := (by omega); have l2_1 : b < w2.heap.size := (by omega); have q0 := (hx2.cells (w.heap.size) (0) (by first | omega | (simp <;> omega))).trans (show _ = some (.slice (some ⟨b, o, none⟩) la.length c0) by first | assumption | go_simp); have q1 := (hx2.cells (w.heap.size) (1) (by first | omega | (simp <;> omega))).trans (show _ = some (.slice a1 lg.length c1) by first | assumption | go_simp); have q2 := (hx2.cells (b) (o + i * 3) (by first | omega | (simp <;> omega))).trans (show _ = some (.slice ap p'.length cp) by first | assumption | go_simp); have q3 := (hx2.cells (b) (o + i * 3 + 1) (by first | omega | (simp <;> omega))).trans (show _ = some (.int .i64 d) by first | assumption | go_simp))))
              go_roundw
              case rel => exact ⟨i + 1, by omega, by go_num, HD, Lib.hid (ext_trans HXB.out (ext_trans extA hx2))⟩
              case measure => simp [intOf]; omega
            | true =>
              have HC := Lib.hid (anyp_of_take (p := fun (x : At) => laterB site clock x.1) (k := i + 1) (by rw [HA.out, HN.out, g1, g2]; rfl))
              clear hse
              go_wp2_with (first | (go_at_call 73; go_must ((with_reducible refine (HLS.out _ extA).mono ?_); rintro e w2 ⟨rfl, hx2⟩; have hs2 := hx2.size; (try simp at hs2); have l2_0 : w.heap.size < w2.heap.size := (by omega); have l2_1 : b < w2.heap.size := (by omega); have q0 := (hx2.cells (w.heap.size) (0) (by first | omega | (simp <;> omega))).trans (show _ = some (.slice (some ⟨b, o, none⟩) la.length c0) by first | assumption | go_simp); have q1 := (hx2.cells (w.heap.size) (1) (by first | omega | (simp <;> omega))).trans (show _ = some (.slice a1 lg.length c1) by first | assumption | go_simp); have q2 := (hx2.cells (b) (o + i * 3) (by first | omega | (simp <;> omega))).trans (show _ = some (.slice ap p'.length cp) by first | assumption | go_simp); have q3 := (hx2.cells (b) (o + i * 3 + 1) (by first | omega | (simp <;> omega))).trans (show _ = some (.int .i64 d) by first | assumption | go_simp))))
              go_ret
              exact ⟨ri (HE4.out (usedA HC.out)).symm, ext_trans HX.out (ext_trans extA hx2)⟩
        · obtain rfl : i = la.length := by omega
          have HNA := Lib.hid (show la.any (fun (x : At) => laterB site clock x.1) = false by have := HN.out; rwa [List.take_of_length_le (Nat.le_refl _)] at this)
          clear HN
          go_wp2_with fail
          refine wp_name (fun wb2 ewb2 => ?_)
          have b0' : wb2.cell? ⟨w.heap.size, 0, none⟩ = some (.slice a0 la.length c0) := by rw [ewb2]; go_simp
          have b1' : wb2.cell? ⟨w.heap.size, 1, none⟩ = some (.slice a1 lg.length c1) := by rw [ewb2]; go_simp
          have HWB2 := Lib.hid (show Ext w wb2 by rw [ewb2]; exact ext_trans HX.out extA)
          clear ewb2 x0 x1 HX HXB hsr hwr b0 b1 HWB hbb
          have hbb : w.heap.size < wb2.heap.size := World.block_lt_of_cell? _ _ b0'
          go_loopw [14] (fun iv wr => ∃ i : Nat, i ≤ lg.length ∧ iv = .int .i64 i ∧ Hid ((lg.take i).any (fun (x : Mk) => laterB site clock x) = false) ∧ Hid (Ext wb2 wr)) (fun iv _ => lg.length - (intOf iv).toNat)
          case atStart => exact ⟨0, Nat.zero_le _, rfl, Lib.hid (by simp), Lib.hid (ext_refl _)⟩
          case round =>
            obtain ⟨i, hil, rfl, HN, HXB⟩ := hrel
            have x0 := (HXB.out.cells _ _ hbb).trans b0'
            have x1 := (HXB.out.cells _ _ hbb).trans b1'
            have HX := Lib.hid (ext_trans HWB2.out HXB.out)
            have hsr := HXB.out.size
            have hwr : w.heap.size < wr.heap.size := by omega
            by_cases hlt : i < lg.length
            · obtain ⟨b, o, p', d, ap, cp, rfl, hb, ek, ick, hpp, y0, y1⟩ := mark_at (HLG.out wr HX.out) hlt
              have hcm := HGK.out _ (List.mem_of_getElem? ek)
              have HLS := Lib.hid (fun (W : World) (hx : Ext wr W) => lastSite_any (rmk_of' (hpp.ext gStp hx) ick) hcm)
              have HA := Lib.hid (anyp_step (p := fun (x : Mk) => laterB site clock x) ek)
              have hL : laterB site clock (p', d) = ((lastSite p' == site) && decide (clock ≤ d)) := rfl
              have hbr : b < wr.heap.size := hb
              have hwb' : w.heap.size < wb2.heap.size := hbb
              clear ek ick hpp hcm
              simp only at HLS HA
              rw [hL] at HA
              generalize lastSite p' = ls at *
              clear hL
              cases g1 : (ls == site) with
              | false =>
                have HD := Lib.hid (show (lg.take (i + 1)).any (fun (x : Mk) => laterB site clock x) = false by rw [HA.out, HN.out, g1]; rfl)
                go_wp2_with (first | (go_at_call 73; go_must ((with_reducible refine (HLS.out _ extA).mono ?_); rintro e w2 ⟨rfl, hx2⟩; have hs2 := hx2.size; (try simp at hs2); have l2_0 : w.heap.size < w2.heap.size := (by omega); have l2_1 : b < w2.heap.size := (by omega); have q0 := (hx2.cells (w.heap.size) (0) (by first | omega | (simp <;> omega))).trans (show _ = some (.slice a0 la.length c0) by first | assumption | go_simp); have q1 := (hx2.cells (w.heap.size) (1) (by first | omega | (simp <;> omega))).trans (show _ = some (.slice (some ⟨b, o, none⟩) lg.length c1) by first | assumption | go_simp); have q2 := (hx2.cells (b) (o + i * 2) (by first | omega | (simp <;> omega))).trans (show _ = some (.slice ap p'.length cp) by first | assumption | go_simp); have q3 := (hx2.cells (b) (o + i * 2 + 1) (by first | omega | (simp <;> omega))).trans (show _ = some (.int .i64 d) by first | assumption | go_simp))))
                go_roundw
                case rel => exact ⟨i + 1, by omega, by go_num, HD, Lib.hid (ext_trans HXB.out (ext_trans extA hx2))⟩
                case measure => simp [intOf]; omega
              | true =>
                have hse : ls = site := by simpa using g1
                cases g2 : decide (clock ≤ d) with
                | false =>
                  have HD := Lib.hid (show (lg.take (i + 1)).any (fun (x : Mk) => laterB site clock x) = false by rw [HA.out, HN.out, g1, g2]; rfl)
                  clear hse
                  go_wp2_with (first | (go_at_call 73; go_must ((with_reducible refine (HLS.out _ extA).mono ?_); rintro e w2 ⟨rfl, hx2⟩; have hs2 := hx2.size; (try simp at hs2); have l2_0 : w.heap.size < w2.heap.size := (by omega); have l2_1 : b < w2.heap.size := (by omega); have q0 := (hx2.cells (w.heap.size) (0) (by first | omega | (simp <;> omega))).trans (show _ = some (.slice a0 la.length c0) by first | assumption | go_simp); have q1 := (hx2.cells (w.heap.size) (1) (by first | omega | (simp <;> omega))).trans (show _ = some (.slice (some ⟨b, o, none⟩) lg.length c1) by first | assumption | go_simp); have q2 := (hx2.cells (b) (o + i * 2) (by first | omega | (simp <;> omega))).trans (show _ = some (.slice ap p'.length cp) by first | assumption | go_simp); have q3 := (hx2.cells (b) (o + i * 2 + 1) (by first | omega | (simp <;> omega))).trans (show _ = some (.int .i64 d) by first | assumption | go_simp))))
                  go_roundw
                  case rel => exact ⟨i + 1, by omega, by go_num, HD, Lib.hid (ext_trans HXB.out (ext_trans extA hx2))⟩
                  case measure => simp [intOf]; omega
                | true =>
                  have HC := Lib.hid (anyp_of_take (p := fun (x : Mk) => laterB site clock x) (k := i + 1) (by rw [HA.out, HN.out, g1, g2]; rfl))
                  clear hse
                  go_wp2_with (first | (go_at_call 73; go_must ((with_reducible refine (HLS.out _ extA).mono ?_); rintro e w2 ⟨rfl, hx2⟩; have hs2 := hx2.size; (try simp at hs2); have l2_0 : w.heap.size < w2.heap.size := (by omega); have l2_1 : b < w2.heap.size := (by omega); have q0 := (hx2.cells (w.heap.size) (0) (by first | omega | (simp <;> omega))).trans (show _ = some (.slice a0 la.length c0) by first | assumption | go_simp); have q1 := (hx2.cells (w.heap.size) (1) (by first | omega | (simp <;> omega))).trans (show _ = some (.slice (some ⟨b, o, none⟩) lg.length c1) by first | assumption | go_simp); have q2 := (hx2.cells (b) (o + i * 2) (by first | omega | (simp <;> omega))).trans (show _ = some (.slice ap p'.length cp) by first | assumption | go_simp); have q3 := (hx2.cells (b) (o + i * 2 + 1) (by first | omega | (simp <;> omega))).trans (show _ = some (.int .i64 d) by first | assumption | go_simp))))
                  go_ret
                  exact ⟨ri (HE4.out (usedG HC.out)).symm, ext_trans HX.out (ext_trans extA hx2)⟩
            · obtain rfl : i = lg.length := by omega
              have HNG := Lib.hid (show lg.any (fun (x : Mk) => laterB site clock x) = false by have := HN.out; rwa [List.take_of_length_le (Nat.le_refl _)] at this)
              clear HN
              have hus : usedB (la, lg) site clock = false := by unfold usedB; simp only [HNA.out, HNG.out]; rfl
              have HE := Lib.hid (HER.out hus)
              clear hus HER HE4 HNA HNG HAK HGK HLG HXB hsr hlt hil
              by_cases hm : 60 < u.size ∨ 300 < la.length + u.size
              · have HR := Lib.hid (show er = 2 by rw [HE.out, if_pos hm])
                by_cases h60 : 60 < u.size
                · have t1 : decide ((60 : Int) < (u.size : Int)) = true := decide_eq_true (by omega)
                  have hu9 : u.size ≤ 9223372036854775807 := by omega
                  go_wp2_with fail
                  go_ret
                  exact ⟨ri HR.out.symm, ext_trans HX.out extA⟩
                · have t1 : decide ((60 : Int) < (u.size : Int)) = false := decide_eq_false (by omega)
                  have t2 : decide ((300 : Int) < (la.length : Int) + (u.size : Int)) = true := decide_eq_true (by omega)
                  have hu9 : u.size ≤ 60 := by omega
                  go_wp2_with fail
                  go_ret
                  exact ⟨ri HR.out.symm, ext_trans HX.out extA⟩
              · have hu9 : u.size ≤ 60 := by omega
                have hlu : la.length + u.size ≤ 300 := by omega
                have t1 : decide ((60 : Int) < (u.size : Int)) = false := decide_eq_false (by omega)
                have t2 : decide ((300 : Int) < (la.length : Int) + (u.size : Int)) = false := decide_eq_false (by omega)
                by_cases hz : u.size = 0
                · have he := empty_yes hz
                  have HR := Lib.hid (show er = 1 by rw [HE.out, if_neg hm, if_pos (bytes_nil hz)])
                  clear hz hm
                  go_wp2_with fail
                  go_ret
                  exact ⟨ri HR.out.symm, ext_trans HX.out extA⟩
                · have he := empty_no hz
                  cases hsg : signsB u.data.toList with
                  | false =>
                    have HR := Lib.hid (show er = 3 by rw [HE.out, if_neg hm, if_neg (bytes_cons hz), if_pos hsg])
                    rw [hsg] at HSG
                    clear hz hm hsg
                    go_wp2_with (first | (go_at_call 63; go_must ((with_reducible refine (HSG.out _).mono ?_); rintro e w9 ⟨rfl, rfl⟩; )))
                    go_ret
                    exact ⟨ri HR.out.symm, ext_trans HX.out extA⟩
                  | true =>
                    have HR := Lib.hid (show er = betweenErr (nearA la k) (nearB la k) site clock u.size by rw [HE.out, if_neg hm, if_neg (bytes_cons hz), if_neg (by rw [hsg]; simp)])
                    have HCB := Lib.hid (fun (W : World) (F G : Nat → Prop) (cs ds : List Value) (ha : RMk F W cs (nearA la k)) (hb : RMk G W ds (nearB la k)) => checkBetween_any (site := site) ha hb ic (show I64 (u.size : Int) from i64_small (by omega) (by omega)))
                    rw [← HR.out] at HCB
                    rw [hsg] at HSG
                    clear hz hm hsg HE HR
                    by_cases hk0 : k = 0
                    · subst hk0
                      have ha : nearA la 0 = ([], 0) := rfl
                      rw [ha] at HCB
                      by_cases hlt : 0 < la.length
                      · obtain ⟨b, o, p, d, s, ap, cp, rfl, hb, ek, ick, hpp, y0, y1, y2⟩ := atm_at (HLA.out wr HX.out) hlt
                        simp only [Nat.zero_mul, Nat.add_zero] at y0 y1 y2
                        have hb' : nearB la 0 = (p, d) := by unfold nearB; rw [ek]; rfl
                        rw [hb'] at HCB
                        have t3 : decide ((0 : Int) < (la.length : Int)) = true := decide_eq_true (by omega)
                        have t4 : ¬ la = [] := by intro h; subst h; simp at hlt
                        have nn0 : ¬ b = wr.heap.size := (by omega); have nn1 : ¬ b = wr.heap.size + 1 := (by omega); have nnl0 : b ≤ wr.heap.size := (by omega); have nnl1 : b ≤ wr.heap.size + 1 := (by omega)
                        have HPB := Lib.hid (fun (W : World) (hx : Ext wr W) => rmk_of' (hpp.ext gStp hx) ick)
                        clear ha hb' ek hpp ick
                        have HC2 := Lib.hid (fun (W : World) (hx : Ext wr W) => HCB.out W F F _ _ rmk_0 (HPB.out W hx))
                        clear HCB
                        go_wp2_with (first | (go_at_call 63; go_must ((with_reducible refine (HSG.out _).mono ?_); rintro e w9 ⟨rfl, rfl⟩; )) | (go_at_call 74; go_must ((with_reducible refine (HC2.out _ extA).mono ?_); rintro e w3 ⟨rfl, hx3⟩; )))
                        go_ret
                        exact ⟨rfl, ext_trans HX.out (ext_trans extA hx3)⟩
                      · have hb' : nearB la 0 = ([], 0) := by unfold nearB; rw [List.getElem?_eq_none (by omega)]; rfl
                        rw [hb'] at HCB
                        have t3 : decide ((0 : Int) < (la.length : Int)) = false := decide_eq_false (by omega)
                        have t4 : la.length = 0 := by omega
                        clear ha hb'
                        have HC2 := Lib.hid (fun (W : World) (hx : Ext wr W) => HCB.out W F F _ _ rmk_0 rmk_0)
                        clear HCB
                        go_wp2_with (first | (go_at_call 63; go_must ((with_reducible refine (HSG.out _).mono ?_); rintro e w9 ⟨rfl, rfl⟩; )) | (go_at_call 74; go_must ((with_reducible refine (HC2.out _ extA).mono ?_); rintro e w3 ⟨rfl, hx3⟩; )))
                        go_ret
                        exact ⟨rfl, ext_trans HX.out (ext_trans extA hx3)⟩
                    · obtain ⟨j, rfl⟩ : ∃ j, k = j + 1 := ⟨k - 1, by omega⟩
                      have hj : j < la.length := by omega
                      obtain ⟨b', o', p', d', s', ap', cp', rfl, hb9, ek', ick', hpp', z0, z1, z2⟩ := atm_at (HLA.out wr HX.out) hj
                      have HPC := Lib.hid (fun (W : World) (hx : Ext wr W) => rmk_of' (hpp'.ext gStp hx) ick')
                      clear hpp' ick'
                      have ha : nearA la (j + 1) = (p', d') := by unfold nearA; rw [if_neg (by omega), Nat.add_sub_cancel, ek']; rfl
                      rw [ha] at HCB
                      have nm0 : ¬ b' = wr.heap.size := (by omega); have nm1 : ¬ b' = wr.heap.size + 1 := (by omega); have nml0 : b' ≤ wr.heap.size := (by omega); have nml1 : b' ≤ wr.heap.size + 1 := (by omega)
                      have t5 : decide ((0 : Int) < (j : Int) + 1) = true := decide_eq_true (by omega)
                      have t6 : (0 : Int) < (j : Int) + 1 := by omega
                      by_cases hlt : j + 1 < la.length
                      · obtain ⟨b, o, p, d, s, ap, cp, hba, hb, ek, ick, hpp, y0, y1, y2⟩ := atm_at (HLA.out wr HX.out) hlt
                        obtain ⟨rfl, rfl⟩ : b' = b ∧ o' = o := by simpa using hba
                        have hb' : nearB la (j + 1) = (p, d) := by unfold nearB; rw [ek]; rfl
                        rw [hb'] at HCB
                        have t3 : decide ((j : Int) + 1 < (la.length : Int)) = true := decide_eq_true (by omega)
                        have HPB := Lib.hid (fun (W : World) (hx : Ext wr W) => rmk_of' (hpp.ext gStp hx) ick)
                        clear ha hb' ek ek' hba hpp ick
                        have HC2 := Lib.hid (fun (W : World) (hx : Ext wr W) => HCB.out W F F _ _ (HPC.out W hx) (HPB.out W hx))
                        clear HCB
                        go_wp2_with (first | (go_at_call 63; go_must ((with_reducible refine (HSG.out _).mono ?_); rintro e w9 ⟨rfl, rfl⟩; )) | (go_at_call 74; go_must ((with_reducible refine (HC2.out _ extA).mono ?_); rintro e w3 ⟨rfl, hx3⟩; )))
                        go_ret
                        exact ⟨rfl, ext_trans HX.out (ext_trans extA hx3)⟩
                      · have hb' : nearB la (j + 1) = ([], 0) := by unfold nearB; rw [List.getElem?_eq_none (by omega)]; rfl
                        rw [hb'] at HCB
                        have t3 : decide ((j : Int) + 1 < (la.length : Int)) = false := decide_eq_false (by omega)
                        clear ha hb' ek'
                        have HC2 := Lib.hid (fun (W : World) (hx : Ext wr W) => HCB.out W F F _ _ (HPC.out W hx) rmk_0)
                        clear HCB
                        go_wp2_with (first | (go_at_call 63; go_must ((with_reducible refine (HSG.out _).mono ?_); rintro e w9 ⟨rfl, rfl⟩; )) | (go_at_call 74; go_must ((with_reducible refine (HC2.out _ extA).mono ?_); rintro e w3 ⟨rfl, hx3⟩; )))
                        go_ret
                        exact ⟨rfl, ext_trans HX.out (ext_trans extA hx3)⟩
    · have hi' : insideB p 0 la.length = false := by simpa using hi
      have HIN := Lib.hid (inB_inside.trans hi')
      have hE : putE (la, lg) p u.data.toList site clock = 3 := by unfold putE; rw [if_neg (by simpa using h0), if_pos hi']
      rw [hE]
      rw [h0] at HCK
      clear h0 hi hi' hE
      go_enter Try.func31, Try.ntmps31
      go_wp2_with (first | (go_at_call 17; go_must ((with_reducible refine (HCK.out _ extA).mono ?_); rintro e w1 ⟨rfl, hx1⟩; have hs1 := hx1.size; (try simp at hs1); have l1 : w.heap.size < w1.heap.size := (by omega); have p0 := (hx1.cells (w.heap.size) 0 (by first | omega | (simp <;> omega))).trans (show _ = some (.slice a0 la.length c0) by first | assumption | go_simp); have p1 := (hx1.cells (w.heap.size) 1 (by first | omega | (simp <;> omega))).trans (show _ = some (.slice a1 lg.length c1) by first | assumption | go_simp); have HX1 := Lib.hid (show Ext w w1 from ext_trans extA hx1))) | (go_at_call 50; go_must ((with_reducible refine (between_any _ _ _ _).mono ?_); rintro e w9 ⟨rfl, rfl⟩; rw [HIN.out])))
      go_ret
      exact ⟨rfl, ext_trans HX1.out extA⟩
  · have hE : putE (la, lg) p u.data.toList site clock = checkS (la, lg) := by unfold putE; rw [if_pos h0]
    rw [hE]
    have g0 : (checkS (la, lg) != 0) = true := by simpa using h0
    generalize checkS (la, lg) = er at *
    clear h0 hE
    go_enter Try.func31, Try.ntmps31
    go_wp2_with (first | (go_at_call 17; go_must ((with_reducible refine (HCK.out _ extA).mono ?_); rintro e w1 ⟨rfl, hx1⟩; have hs1 := hx1.size; (try simp at hs1); have l1 : w.heap.size < w1.heap.size := (by omega); have p0 := (hx1.cells (w.heap.size) 0 (by first | omega | (simp <;> omega))).trans (show _ = some (.slice a0 la.length c0) by first | assumption | go_simp); have p1 := (hx1.cells (w.heap.size) 1 (by first | omega | (simp <;> omega))).trans (show _ = some (.slice a1 lg.length c1) by first | assumption | go_simp); have HX1 := Lib.hid (show Ext w w1 from ext_trans extA hx1))))
    go_ret
    exact ⟨rfl, ext_trans HX1.out extA⟩
end Go.Proofs.Ytfgfdohppgoajaa
