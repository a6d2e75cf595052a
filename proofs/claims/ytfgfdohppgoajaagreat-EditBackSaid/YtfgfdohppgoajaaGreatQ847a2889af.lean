/- EditBack, walked. -/
import Derived.Test.YtfgfdohppgoajaaGreatQ91f338add7
import Derived.Test.YtfgfdohppgoajaaGreatQf9270a1acc
import Derived.Test.YtfgfdohppgoajaaGreatQb0078bfaef
import Derived.Test.YtfgfdohppgoajaaGreatQ8ebb1f5718
set_option linter.unusedVariables false
set_option linter.unusedSimpArgs false
namespace Go.Proofs.YtfgfdohppgoajaaGreat
open Go Go.RowKit Go.BigFrame Cp

theorem putV_errB {s : St} {p : Int} {t : Tx} {site clock : Int} (h : ¬ putE s p t site clock = 0) : putV s p t site clock = [] := by unfold putV; rw [if_neg h]
theorem put_atB {s : St} {p : Int} {t : Tx} {site clock : Int} (h : putE s p t site clock = 0) : ∃ k : Nat, p = (k : Int) := by
  obtain ⟨_, ⟨k, hk, _⟩, _⟩ := putE_parts h
  exact ⟨k, hk⟩
theorem rst_ownB {B : Nat} {t : St} {w : World} {v u : Value} (h : OwnSt B t w v u) : RSt (fun j => B ≤ j) w [v, u] t := ⟨v, u, rfl, (ownSt_rsl h).1, (ownSt_rsl h).2⟩
theorem gone_most {a b : Nat} (h : 600 < a + b) (ha : a ≤ 600) (hb : b ≤ 60) : decide (600 < wrap64 ((a : Int) + (b : Int))) = true := by rw [IntWalk.wrap64_in _ (by omega)]; exact decide_eq_true (by omega)
set_option maxRecDepth 100000 in
set_option maxHeartbeats 4000000 in
theorem editBack_any {F : Nat → Prop} {w : World} {cs : List Value} {s : St} {p site clock : Int} {v : Value} {t : Tx} (h : RSt F w cs s) (ip : I64 p) (ht : RTx v t) (ic : I64 clock) :
    Calls Tryz.prog 3 #[.agg cs.toArray, .int .i64 p, v, .int .i64 site, .int .i64 clock] w fun e w' => e = .returned (.bool true) ∧ Ext w w' := by
  obtain ⟨rfl, hs⟩ := ht
  obtain ⟨u, rfl⟩ : ∃ u : ByteArray, t = u.data.toList := ⟨⟨t.toArray⟩, by simp⟩
  rw [tx_back]
  have hu : u.size ≤ 140737488351232 := by simpa using hs
  have hul : u.data.toList.length = u.size := by simp
  have HPU := Lib.hid (fun (W : World) (hx : Ext w W) => editPut_any (site := site) (gSt.ext h hx) ip hu ic)
  clear hs hu ic
  by_cases h0 : putE s p u.data.toList site clock = 0
  · obtain ⟨k, rfl⟩ := put_atB h0
    obtain ⟨T, b1, b2, b3, b4⟩ := back_facts h0
    obtain ⟨hfs, ⟨k', hk1, hk⟩, _, hu60, hlu, _, _, _⟩ := putE_parts h0
    obtain rfl : k = k' := by omega
    have HAL := Lib.hid (fun (W : World) (hx : Ext w W) (G : Nat → Prop) (x : Value) (hl : RSl RDe 7 G W x (putV s k u.data.toList site clock)) => all_any (gSt.ext h hx) hl)
    rw [b1, b2] at HAL
    rw [h0] at HPU
    rw [hul] at b3 b4 hu60 hlu
    have iu : I64 (u.size : Int) := i64_small (by omega) (by omega)
    have HTK := Lib.hid (fun (W : World) (F : Nat → Prop) (cs : List Value) (hT : RSt F W cs T) => editTake_any hT ip iu)
    rw [b3] at HTK
    have HA2 := Lib.hid (fun (W : World) (F G : Nat → Prop) (cs : List Value) (x : Value) (hT : RSt F W cs T) (hl : RSl RDe 7 G W x (cutV T k u.size)) => all_any hT hl)
    have hg6 : s.2.length ≤ 600 := hfs.2.2
    clear h0 b1 b2 b3 ip iu hfs hk hk1 hlu
    obtain ⟨v, y, rfl, h1, h2⟩ := h
    obtain ⟨la, lg⟩ := s
    simp only at h1 h2 hg6 b4
    have HLA := Lib.hid (fun (W : World) (hx : Ext w W) => h1.ext gAt hx)
    obtain ⟨a0, n0, c0, rfl⟩ := h1.slice
    obtain ⟨a1, n1, c1, rfl⟩ := h2.slice
    obtain rfl : n0 = la.length := h1.len.1
    obtain rfl : n1 = lg.length := h2.len.1
    generalize putV (la, lg) k u.data.toList site clock = l at *
    generalize cutV T k u.size = m at *
    clear h1 h2 hul
    rcases b4 with ⟨e4, e5⟩ | ⟨e4, e5, e6⟩
    · rw [e4] at HA2
      generalize allV T m = U at *
      obtain ⟨ua, ug⟩ := U
      obtain rfl : la = ua := e5.symm
      clear e4 e5 hg6 hu60
      go_enter Tryz.func3, Tryz.ntmps3
      go_wp2_with (first | (go_at_call 5; go_must ((with_reducible refine (editBegun_any _).mono ?_); rintro e w1 ⟨rfl, hx1⟩; have hs1 := hx1.size; (try simp at hs1); have l1 : w.heap.size < w1.heap.size := (by omega); have p0 := (hx1.cells (w.heap.size) 0 (by first | omega | (simp <;> omega))).trans (show _ = some (.slice a0 la.length c0) by first | assumption | go_simp); have p1 := (hx1.cells (w.heap.size) 1 (by first | omega | (simp <;> omega))).trans (show _ = some (.slice a1 lg.length c1) by first | assumption | go_simp); have HX1 := Lib.hid (show Ext w w1 from ext_trans extA hx1))) | (go_at_call 6; go_must ((with_reducible refine (stateBegun_any _).mono ?_); rintro e w2 ⟨rfl, hx2⟩; have hs2 := hx2.size; (try simp at hs2); have l2 : w.heap.size < w2.heap.size := (by omega); have q0 := (hx2.cells (w.heap.size) 0 (by first | omega | (simp <;> omega))).trans (show _ = some (.slice a0 la.length c0) by first | assumption | go_simp); have q1 := (hx2.cells (w.heap.size) 1 (by first | omega | (simp <;> omega))).trans (show _ = some (.slice a1 lg.length c1) by first | assumption | go_simp); have HX2 := Lib.hid (show Ext w w2 from ext_trans (ext_trans HX1.out extA) hx2))) | (go_at_call 7; go_must ((with_reducible refine (HPU.out _ (ext_trans HX2.out extA)).mono ?_); rintro e w3 ⟨v3, rfl, hv3, hx3⟩; obtain ⟨a3, n3, c3, rfl⟩ := hv3.slice; have HV3 := Lib.hid hv3; clear hv3; have hs3 := hx3.size; (try simp at hs3); have l3 : w.heap.size < w3.heap.size := (by omega); have r0 := (hx3.cells (w.heap.size) 0 (by first | omega | (simp <;> omega))).trans (show _ = some (.slice a0 la.length c0) by first | assumption | go_simp); have r1 := (hx3.cells (w.heap.size) 1 (by first | omega | (simp <;> omega))).trans (show _ = some (.slice a1 lg.length c1) by first | assumption | go_simp); have HX3 := Lib.hid (show Ext w w3 from ext_trans (ext_trans HX2.out extA) hx3))) | (go_at_call 8; ((with_reducible refine (HAL.out _ (ext_trans HX3.out extA) _ _ (HV3.out.ext gDe extA)).mono ?_); rintro e w4 ⟨v4, u4, rfl, ho4, hx4⟩; obtain ⟨a4, n4, c4, rfl⟩ := osl_slice ho4.1; obtain ⟨a5, n5, c5, rfl⟩ := osl_slice ho4.2.1; clear HAL; have HS4 := Lib.hid (rst_ownB ho4); have hs4 := hx4.size; (try simp at hs4); have l4 : w.heap.size < w4.heap.size := (by omega); have s0 := (hx4.cells (w.heap.size) 0 (by first | omega | (simp <;> omega))).trans (show _ = some (.slice a0 la.length c0) by first | assumption | go_simp); have s1 := (hx4.cells (w.heap.size) 1 (by first | omega | (simp <;> omega))).trans (show _ = some (.slice a1 lg.length c1) by first | assumption | go_simp); have HX4 := Lib.hid (show Ext w w4 from ext_trans (ext_trans HX3.out extA) hx4))) | (go_at_call 9; go_must ((with_reducible refine (HTK.out _ _ _ (gSt.ext HS4.out extA)).mono ?_); rintro e w5 ⟨v5, rfl, hv5, hx5⟩; obtain ⟨a7, n7, c7, rfl⟩ := hv5.slice; have HV5 := Lib.hid hv5; clear hv5; have hs5 := hx5.size; (try simp at hs5); have l5 : w.heap.size < w5.heap.size := (by omega); have k5 : w4.heap.size < w5.heap.size := (by omega); have t0 := (hx5.cells (w.heap.size) 0 (by first | omega | (simp <;> omega))).trans (show _ = some (.slice a0 la.length c0) by first | assumption | go_simp); have t1 := (hx5.cells (w.heap.size) 1 (by first | omega | (simp <;> omega))).trans (show _ = some (.slice a1 lg.length c1) by first | assumption | go_simp); have t2 := (hx5.cells (w4.heap.size) 0 (by first | omega | (simp <;> omega))).trans (show _ = some (.slice a4 n4 c4) by first | assumption | go_simp); have t3 := (hx5.cells (w4.heap.size) 1 (by first | omega | (simp <;> omega))).trans (show _ = some (.slice a5 n5 c5) by first | assumption | go_simp); have HX5 := Lib.hid (show Ext w w5 from ext_trans (ext_trans HX4.out extA) hx5); have HX54 := Lib.hid (show Ext w4 w5 from ext_trans extA hx5))) | (go_at_call 8; go_must ((with_reducible refine (HA2.out _ _ _ _ _ (gSt.ext HS4.out (ext_trans HX54.out extA)) (HV5.out.ext gDe extA)).mono ?_); rintro e w6 ⟨v6, u6, rfl, ho6, hx6⟩; obtain ⟨a6, n6, c6, rfl⟩ := osl_slice ho6.1; obtain ⟨a8, n8, c8, rfl⟩ := osl_slice ho6.2.1; obtain rfl : n6 = la.length := (osl_len ho6.1).1; have HS6 := Lib.hid (ownSt_rsl ho6).1; have hs6 := hx6.size; (try simp at hs6); have l6 : w.heap.size < w6.heap.size := (by omega); have k6 : w4.heap.size < w6.heap.size := (by omega); have z0 := (hx6.cells (w.heap.size) 0 (by first | omega | (simp <;> omega))).trans (show _ = some (.slice a0 la.length c0) by first | assumption | go_simp); have z1 := (hx6.cells (w.heap.size) 1 (by first | omega | (simp <;> omega))).trans (show _ = some (.slice a1 lg.length c1) by first | assumption | go_simp); have HX6 := Lib.hid (show Ext w w6 from ext_trans (ext_trans HX5.out extA) hx6))) | (go_at_call 10; go_must ((with_reducible refine (sameAtoms_any (HS6.out.ext gAt extA) (HLA.out _ (ext_trans HX6.out extA))).mono ?_); rintro e w7 ⟨rfl, hx7⟩; have HX7 := Lib.hid (show Ext w w7 from ext_trans (ext_trans HX6.out extA) hx7))))
      go_ret
      exact ⟨rfl, ext_trans HX7.out extA⟩
    · rw [e4, e5] at HA2
      have hgm := gone_most e6 hg6 hu60
      clear e4 e5 e6 hg6 hu60
      go_enter Tryz.func3, Tryz.ntmps3
      go_wp2_with (first | (go_at_call 5; go_must ((with_reducible refine (editBegun_any _).mono ?_); rintro e w1 ⟨rfl, hx1⟩; have hs1 := hx1.size; (try simp at hs1); have l1 : w.heap.size < w1.heap.size := (by omega); have p0 := (hx1.cells (w.heap.size) 0 (by first | omega | (simp <;> omega))).trans (show _ = some (.slice a0 la.length c0) by first | assumption | go_simp); have p1 := (hx1.cells (w.heap.size) 1 (by first | omega | (simp <;> omega))).trans (show _ = some (.slice a1 lg.length c1) by first | assumption | go_simp); have HX1 := Lib.hid (show Ext w w1 from ext_trans extA hx1))) | (go_at_call 6; go_must ((with_reducible refine (stateBegun_any _).mono ?_); rintro e w2 ⟨rfl, hx2⟩; have hs2 := hx2.size; (try simp at hs2); have l2 : w.heap.size < w2.heap.size := (by omega); have q0 := (hx2.cells (w.heap.size) 0 (by first | omega | (simp <;> omega))).trans (show _ = some (.slice a0 la.length c0) by first | assumption | go_simp); have q1 := (hx2.cells (w.heap.size) 1 (by first | omega | (simp <;> omega))).trans (show _ = some (.slice a1 lg.length c1) by first | assumption | go_simp); have HX2 := Lib.hid (show Ext w w2 from ext_trans (ext_trans HX1.out extA) hx2))) | (go_at_call 7; go_must ((with_reducible refine (HPU.out _ (ext_trans HX2.out extA)).mono ?_); rintro e w3 ⟨v3, rfl, hv3, hx3⟩; obtain ⟨a3, n3, c3, rfl⟩ := hv3.slice; have HV3 := Lib.hid hv3; clear hv3; have hs3 := hx3.size; (try simp at hs3); have l3 : w.heap.size < w3.heap.size := (by omega); have r0 := (hx3.cells (w.heap.size) 0 (by first | omega | (simp <;> omega))).trans (show _ = some (.slice a0 la.length c0) by first | assumption | go_simp); have r1 := (hx3.cells (w.heap.size) 1 (by first | omega | (simp <;> omega))).trans (show _ = some (.slice a1 lg.length c1) by first | assumption | go_simp); have HX3 := Lib.hid (show Ext w w3 from ext_trans (ext_trans HX2.out extA) hx3))) | (go_at_call 8; ((with_reducible refine (HAL.out _ (ext_trans HX3.out extA) _ _ (HV3.out.ext gDe extA)).mono ?_); rintro e w4 ⟨v4, u4, rfl, ho4, hx4⟩; obtain ⟨a4, n4, c4, rfl⟩ := osl_slice ho4.1; obtain ⟨a5, n5, c5, rfl⟩ := osl_slice ho4.2.1; clear HAL; have HS4 := Lib.hid (rst_ownB ho4); have hs4 := hx4.size; (try simp at hs4); have l4 : w.heap.size < w4.heap.size := (by omega); have s0 := (hx4.cells (w.heap.size) 0 (by first | omega | (simp <;> omega))).trans (show _ = some (.slice a0 la.length c0) by first | assumption | go_simp); have s1 := (hx4.cells (w.heap.size) 1 (by first | omega | (simp <;> omega))).trans (show _ = some (.slice a1 lg.length c1) by first | assumption | go_simp); have HX4 := Lib.hid (show Ext w w4 from ext_trans (ext_trans HX3.out extA) hx4))) | (go_at_call 9; go_must ((with_reducible refine (HTK.out _ _ _ (gSt.ext HS4.out extA)).mono ?_); rintro e w5 ⟨v5, rfl, hv5, hx5⟩; obtain ⟨a7, n7, c7, rfl⟩ := hv5.slice; have HV5 := Lib.hid hv5; clear hv5; have hs5 := hx5.size; (try simp at hs5); have l5 : w.heap.size < w5.heap.size := (by omega); have k5 : w4.heap.size < w5.heap.size := (by omega); have t0 := (hx5.cells (w.heap.size) 0 (by first | omega | (simp <;> omega))).trans (show _ = some (.slice a0 la.length c0) by first | assumption | go_simp); have t1 := (hx5.cells (w.heap.size) 1 (by first | omega | (simp <;> omega))).trans (show _ = some (.slice a1 lg.length c1) by first | assumption | go_simp); have t2 := (hx5.cells (w4.heap.size) 0 (by first | omega | (simp <;> omega))).trans (show _ = some (.slice a4 n4 c4) by first | assumption | go_simp); have t3 := (hx5.cells (w4.heap.size) 1 (by first | omega | (simp <;> omega))).trans (show _ = some (.slice a5 n5 c5) by first | assumption | go_simp); have HX5 := Lib.hid (show Ext w w5 from ext_trans (ext_trans HX4.out extA) hx5); have HX54 := Lib.hid (show Ext w4 w5 from ext_trans extA hx5))) | (go_at_call 8; go_must ((with_reducible refine (HA2.out _ _ _ _ _ (gSt.ext HS4.out (ext_trans HX54.out extA)) (HV5.out.ext gDe extA)).mono ?_); rintro e w6 ⟨v6, u6, rfl, ho6, hx6⟩; obtain ⟨a6, n6, c6, rfl⟩ := osl_slice ho6.1; obtain ⟨a8, n8, c8, rfl⟩ := osl_slice ho6.2.1; have hs6 := hx6.size; (try simp at hs6); have l6 : w.heap.size < w6.heap.size := (by omega); have k6 : w4.heap.size < w6.heap.size := (by omega); have z0 := (hx6.cells (w.heap.size) 0 (by first | omega | (simp <;> omega))).trans (show _ = some (.slice a0 la.length c0) by first | assumption | go_simp); have z1 := (hx6.cells (w.heap.size) 1 (by first | omega | (simp <;> omega))).trans (show _ = some (.slice a1 lg.length c1) by first | assumption | go_simp); have HX6 := Lib.hid (show Ext w w6 from ext_trans (ext_trans HX5.out extA) hx6))))
      go_ret
      exact ⟨rfl, ext_trans HX6.out extA⟩
  · rw [putV_errB h0] at HPU
    generalize putE s p u.data.toList site clock = er at *
    have t1 : (er != 0) = true := by simpa using h0
    clear h0
    obtain ⟨v, y, rfl, h1, h2⟩ := h
    obtain ⟨la, lg⟩ := s
    simp only at h1 h2
    obtain ⟨a0, n0, c0, rfl⟩ := h1.slice
    obtain ⟨a1, n1, c1, rfl⟩ := h2.slice
    obtain rfl : n0 = la.length := h1.len.1
    obtain rfl : n1 = lg.length := h2.len.1
    clear h1 h2
    go_enter Tryz.func3, Tryz.ntmps3
    go_wp2_with (first | (go_at_call 5; go_must ((with_reducible refine (editBegun_any _).mono ?_); rintro e w1 ⟨rfl, hx1⟩; have hs1 := hx1.size; (try simp at hs1); have l1 : w.heap.size < w1.heap.size := (by omega); have p0 := (hx1.cells (w.heap.size) 0 (by first | omega | (simp <;> omega))).trans (show _ = some (.slice a0 la.length c0) by first | assumption | go_simp); have p1 := (hx1.cells (w.heap.size) 1 (by first | omega | (simp <;> omega))).trans (show _ = some (.slice a1 lg.length c1) by first | assumption | go_simp); have HX1 := Lib.hid (show Ext w w1 from ext_trans extA hx1))) | (go_at_call 6; go_must ((with_reducible refine (stateBegun_any _).mono ?_); rintro e w2 ⟨rfl, hx2⟩; have hs2 := hx2.size; (try simp at hs2); have l2 : w.heap.size < w2.heap.size := (by omega); have q0 := (hx2.cells (w.heap.size) 0 (by first | omega | (simp <;> omega))).trans (show _ = some (.slice a0 la.length c0) by first | assumption | go_simp); have q1 := (hx2.cells (w.heap.size) 1 (by first | omega | (simp <;> omega))).trans (show _ = some (.slice a1 lg.length c1) by first | assumption | go_simp); have HX2 := Lib.hid (show Ext w w2 from ext_trans (ext_trans HX1.out extA) hx2))) | (go_at_call 7; go_must ((with_reducible refine (HPU.out _ (ext_trans HX2.out extA)).mono ?_); rintro e w3 ⟨v3, rfl, hv3, hx3⟩; obtain ⟨a3, n3, c3, rfl⟩ := hv3.slice; obtain rfl : n3 = 0 := hv3.len.1; have HV3 := Lib.hid hv3; clear hv3; have hs3 := hx3.size; (try simp at hs3); have l3 : w.heap.size < w3.heap.size := (by omega); have r0 := (hx3.cells (w.heap.size) 0 (by first | omega | (simp <;> omega))).trans (show _ = some (.slice a0 la.length c0) by first | assumption | go_simp); have r1 := (hx3.cells (w.heap.size) 1 (by first | omega | (simp <;> omega))).trans (show _ = some (.slice a1 lg.length c1) by first | assumption | go_simp); have HX3 := Lib.hid (show Ext w w3 from ext_trans (ext_trans HX2.out extA) hx3))))
    go_ret
    exact ⟨rfl, ext_trans HX3.out extA⟩
end Go.Proofs.YtfgfdohppgoajaaGreat
