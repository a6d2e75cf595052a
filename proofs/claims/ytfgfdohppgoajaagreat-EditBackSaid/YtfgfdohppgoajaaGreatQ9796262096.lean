/- edit.Take. -/
import Derived.Test.YtfgfdohppgoajaaGreatQ1690926dd5
import Derived.Test.YtfgfdohppgoajaaGreatQc319e4a0fb
import Derived.Test.YtfgfdohppgoajaaGreatQ8ebb1f5718
set_option linter.unusedVariables false
set_option linter.unusedSimpArgs false
namespace Go.Proofs.YtfgfdohppgoajaaGreat
open Go Go.RowKit Go.BigFrame Cp

set_option maxRecDepth 100000 in
set_option maxHeartbeats 4000000 in
theorem editTake_any {F : Nat → Prop} {w : World} {cs : List Value} {s : St} {at_ many : Int} (h : RSt F w cs s) (ia : I64 at_) (im : I64 many) :
    Calls Tryz.prog 9 #[.agg cs.toArray, .int .i64 at_, .int .i64 many] w (IsDesE (cutV s at_ many) (cutE s at_ many) w) := by
  have HCK := Lib.hid (fun (W : World) (hx : Ext w W) => checkStateP_any (gSt.ext h hx))
  obtain ⟨v, u, rfl, h1, h2⟩ := h
  obtain ⟨la, lg⟩ := s
  simp only at h1 h2 HCK
  have HA := Lib.hid (fun (W : World) (hx : Ext w W) => h1.ext gAt hx)
  obtain ⟨a0, n0, c0, rfl⟩ := h1.slice
  obtain ⟨a1, n1, c1, rfl⟩ := h2.slice
  obtain ⟨rfl, hc0, _⟩ := h1.len
  obtain ⟨rfl, _, _⟩ := h2.len
  clear h1 h2
  by_cases h0 : checkS (la, lg) = 0
  · have hn : la.length ≤ 300 := (checkS_fit.1 h0).2.1
    have HIN := Lib.hid (fun (W : World) => inside_any at_ many la.length W ia im (by omega))
    by_cases hi : insideB at_ many la.length = true
    · have hcE : cutE (la, lg) at_ many = 0 := by unfold cutE; rw [if_neg (by simpa using h0), if_neg (by rw [hi]; simp)]
      have hcV : cutV (la, lg) at_ many = (runsA (cutL (la, lg) at_.toNat many.toNat)).map takeDe := by unfold cutV; rw [if_pos hcE]
      rw [hcE, hcV]
      obtain ⟨i, j, rfl, rfl, hij⟩ := inside_nat hi
      rw [Int.toNat_natCast, Int.toNat_natCast]
      rw [hi] at HIN
      have hck := cutL_right h0 i j
      have hcl : (cutL (la, lg) i j).length ≤ 300 := by unfold cutL; rw [List.length_take, List.length_drop]; simp only; omega
      have HRO := Lib.hid (fun (W : World) (hx : Ext w W) => runOf_any (show RSl RAt 3 F W _ (cutL (la, lg) i j) from by have := rsl_sub (HA.out W hx) (show i ≤ i + j by omega) hij; rwa [Nat.add_sub_cancel_left] at this) hck)
      have hrk := (runs_back hck).2.1
      have hrl := Nat.le_trans (runsA_few _) hcl
      generalize runsA (cutL (la, lg) i j) = rs at *
      have HRK := Lib.hid hrk
      rw [h0] at HCK
      obtain ⟨i0, hi0, hz0, hz1', hz2⟩ := info_parts info_deF
      have HJ := Lib.hid hi0
      have HZ0 := Lib.hid hz0
      have HZ1 := Lib.hid hz1'
      have HZ2 := Lib.hid hz2
      clear h0 hi hcE hcV hck hcl hrk hi0 hz0 hz1' hz2 ia im HA
      go_enter Tryz.func9, Tryz.ntmps9
      go_wp2_with (first | (go_at_call 40; go_must ((with_reducible refine (HCK.out _ extA).mono ?_); rintro e w1 ⟨rfl, hx1⟩; have hs1 := hx1.size; (try simp at hs1); have l1_0 : w.heap.size < w1.heap.size := (by omega); have p0 := (hx1.cells (w.heap.size) 0 (by first | omega | (simp <;> omega))).trans (show _ = some (.slice a0 la.length c0) by first | assumption | go_simp); have HX1 := Lib.hid (show Ext w w1 from ext_trans extA hx1))) | (go_at_call 43; go_must ((with_reducible refine (HIN.out _).mono ?_); rintro e w2 ⟨rfl, rfl⟩; )) | (go_at_call 50; go_must ((with_reducible refine (HRO.out _ (ext_trans HX1.out extA)).mono ?_); rintro e w3 ⟨v3, rfl, hv3, hx3⟩; obtain ⟨a3, n3, c3, rfl⟩ := hv3.slice; obtain rfl : n3 = rs.length := hv3.len.1; have HV3 := Lib.hid hv3; have HX3 := Lib.hid (show Ext w w3 from ext_trans (ext_trans HX1.out extA) hx3); clear hv3)))
      all_goals
        refine wp_name (fun wb ewb => ?_)
        have HWB := Lib.hid (show Ext w wb by rw [ewb]; exact ext_trans HX3.out extA)
        have HRS0 : RSl RRn 3 (fun k => w1.heap.size ≤ k) wb (.slice a3 rs.length c3) rs := by rw [ewb]; exact HV3.out.ext gRn extA
        have HRS := Lib.hid (show RSl RRn 3 (fun j => w.heap.size ≤ j ∧ j < wb.heap.size) wb (.slice a3 rs.length c3) rs from RSl.more gRn (fun j hj hlt => ⟨by have := HX1.out.size; first | omega | (simp at hj; omega), hlt⟩) HRS0)
        clear ewb HRS0 HV3 HX3 HX1 hx3 hx1 HRO HCK HIN p0
        go_loopw [9, 33] (fun ov iv wr => ∃ k : Nat, k ≤ rs.length ∧ iv = .int .i64 k ∧ Hid (OSl RDe 7 66 wb.heap.size (fun j => w.heap.size ≤ j) wr ov ((rs.take k).map takeDe)) ∧ Hid (Ext wb wr)) (fun _ iv _ => rs.length - (intOf iv).toNat)
        case atStart => exact ⟨0, Nat.zero_le _, rfl, Lib.hid osl_nil, Lib.hid (ext_refl _)⟩
        case round =>
          obtain ⟨k, hk, rfl, HO, HX⟩ := hrel
          have HOL := Lib.hid (osl_lt HO.out)
          obtain ⟨a6, n6, c6, rfl⟩ := osl_slice HO.out
          obtain rfl : n6 = ((rs.take k).map takeDe).length := (osl_len HO.out).1
          have hml : ((rs.take k).map takeDe).length = k := by rw [List.length_map, List.length_take]; omega
          have hsr := HX.out.size
          have hwb := HWB.out.size
          by_cases hlt : k < rs.length
          · obtain ⟨b, o, p, c, t, ap, cp, rfl, hb, ek, ht, ick, hpp, y0, y1, y2⟩ := run_at (HRS.out.ext gRn HX.out) hlt
            have ht60 := (checkR_parts (HRK.out _ (List.mem_of_getElem? ek))).2.2.1
            have hts : t.data.toList.length = t.size := by simp
            simp only [hts] at ht60
            have HDE := Lib.hid (fun (W : World) (hx : Ext wr W) => takeDe_is (hpp.ext gStp hx) ick (show t.data.toList.length ≤ 60 by omega))
            have hsn := map_snoc (f := takeDe) ek
            rw [hts] at HDE
            have hbr : b < wr.heap.size := hb
            clear ek hpp ht
            rw [hml] at HO HOL ⊢
            generalize (rs.take k).map takeDe = ms at *
            go_wp2_with (first | (at_builtin; go_must (refine wpList_appAll gDe rfl (.tmp 37) (.tmp 44) 27 rfl wb.heap.size 66 i0 _ 7 96 Tryz.underlying27 HJ.out HZ0.out HZ1.out HZ2.out rfl (by omega) (F := fun j => w.heap.size ≤ j) (G := fun j => (w.heap.size ≤ j ∧ j < wb.heap.size) ∨ j = wr.heap.size + 1) (.slice a6 k c6) ms rfl (osl_ext gDe HO.out extA) _ [_] rfl (de_one (HDE.out _ extA) (by first | assumption | go_simp) (by first | assumption | go_simp) (by first | assumption | go_simp) (by first | assumption | go_simp) (by first | assumption | go_simp) (by first | assumption | go_simp) (by first | assumption | go_simp)) one_deF (fun j hj _ => ⟨by rcases hj with h | h <;> omega, fun e => by have := HOL.out j e.symm; rcases hj with h | h <;> omega⟩) (deF_len (by omega) (by simp)) (deF_byt (by omega) (by simp)) (by first | omega | (simp <;> omega)) ?_; intro v9 w9 hown9 hg9 hat9; obtain ⟨a9, n9, c9, rfl⟩ := osl_slice hown9; have HX9 := Lib.hid (show Ext wb w9 from ext_grow (ext_trans HX.out extA) hg9 (fun j hj => (HOL.out j hj).1)); have HV9 := Lib.hid hown9)))
            go_roundw
            case rel => exact ⟨k + 1, by omega, by go_num, Lib.hid (by rw [hsn]; exact HV9.out), HX9⟩
            case measure => simp [intOf]; omega
          · obtain rfl : k = rs.length := by omega
            rw [List.take_of_length_le (Nat.le_refl _)] at *
            go_wp2_with fail
            refine bodyPost_ret (v := .tuple #[.slice a6 (rs.map takeDe).length c6, .int .i64 0]) (by simp [results, Tryz.results9, go_sem]) rfl ⟨_, rfl, osl_rsl gDe (osl_ext gDe HO.out extA) (fun j hj _ => hj) (fun j hj => by omega), ext_trans HWB.out (ext_trans HX.out extA)⟩
    · have hcE : cutE (la, lg) at_ many = 3 := by unfold cutE; rw [if_neg (by simpa using h0), if_pos (by simpa using hi)]
      have hcV : cutV (la, lg) at_ many = [] := by unfold cutV; rw [if_neg (by rw [hcE]; simp)]
      rw [hcE, hcV]
      have hi' : insideB at_ many la.length = false := by simpa using hi
      rw [hi'] at HIN
      rw [h0] at HCK
      clear h0 hi hi' hcE hcV ia im HA
      go_enter Tryz.func9, Tryz.ntmps9
      go_wp2_with (first | (go_at_call 40; go_must ((with_reducible refine (HCK.out _ extA).mono ?_); rintro e w1 ⟨rfl, hx1⟩; have hs1 := hx1.size; (try simp at hs1); have l1_0 : w.heap.size < w1.heap.size := (by omega); have p0 := (hx1.cells (w.heap.size) 0 (by first | omega | (simp <;> omega))).trans (show _ = some (.slice a0 la.length c0) by first | assumption | go_simp); have HX1 := Lib.hid (show Ext w w1 from ext_trans extA hx1))) | (go_at_call 43; go_must ((with_reducible refine (HIN.out _).mono ?_); rintro e w2 ⟨rfl, rfl⟩; )))
      refine bodyPost_ret (v := .tuple #[.slice none 0 0, .int .i64 3]) (by simp [results, Tryz.results9, go_sem]) rfl ⟨_, rfl, RSl.nil_ (Nat.zero_le _), ext_trans HX1.out extA⟩
  · have hcE : cutE (la, lg) at_ many = checkS (la, lg) := by unfold cutE; rw [if_pos h0]
    have hcV : cutV (la, lg) at_ many = [] := by unfold cutV; rw [if_neg (by rw [hcE]; exact h0)]
    rw [hcE, hcV]
    have g0 : (checkS (la, lg) != 0) = true := by simpa using h0
    generalize checkS (la, lg) = er at *
    clear h0 hcE hcV ia im HA
    go_enter Tryz.func9, Tryz.ntmps9
    go_wp2_with (first | (go_at_call 40; go_must ((with_reducible refine (HCK.out _ extA).mono ?_); rintro e w1 ⟨rfl, hx1⟩; have hs1 := hx1.size; (try simp at hs1); have l1_0 : w.heap.size < w1.heap.size := (by omega); have p0 := (hx1.cells (w.heap.size) 0 (by first | omega | (simp <;> omega))).trans (show _ = some (.slice a0 la.length c0) by first | assumption | go_simp); have HX1 := Lib.hid (show Ext w w1 from ext_trans extA hx1))))
    refine bodyPost_ret (v := .tuple #[.slice none 0 0, .int .i64 er]) (by simp [results, Tryz.results9, go_sem]) rfl ⟨_, rfl, RSl.nil_ (Nat.zero_le _), ext_trans HX1.out extA⟩
end Go.Proofs.YtfgfdohppgoajaaGreat
