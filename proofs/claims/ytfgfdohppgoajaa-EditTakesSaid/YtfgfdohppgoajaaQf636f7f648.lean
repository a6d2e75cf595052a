/- EditTakes, walked. -/
import Derived.Test.YtfgfdohppgoajaaQ7fc32e5329
import Derived.Test.YtfgfdohppgoajaaQ40ed7e6f3b
import Derived.Test.YtfgfdohppgoajaaQf3c40d81ef
import Derived.Test.YtfgfdohppgoajaaQa90aecf697
set_option linter.unusedVariables false
set_option linter.unusedSimpArgs false
namespace Go.Proofs.Ytfgfdohppgoajaa
open Go Go.RowKit Go.BigFrame Cp

theorem cut_str {la lb : List At} {i j : Nat} (h : lb = List.take i la ++ List.drop (i + j) la) :
    (⟨(textA lb).toArray⟩ : ByteArray) = (⟨(textA la).toArray⟩ : ByteArray).extract 0 i ++ (⟨(textA la).toArray⟩ : ByteArray).extract (i + j) (⟨(textA la).toArray⟩ : ByteArray).size := by
  apply bytes_of
  rw [cut_tx, h]
  unfold textA
  simp [List.map_append, List.map_take, List.map_drop]
set_option maxRecDepth 100000 in
set_option maxHeartbeats 4000000 in
theorem editTakes_any {F : Nat → Prop} {w : World} {cs : List Value} {s : St} {at_ many : Int} (h : RSt F w cs s) (ia : I64 at_) (im : I64 many) :
    Calls Try.prog 9 #[.agg cs.toArray, .int .i64 at_, .int .i64 many] w fun e w' => e = .returned (.bool true) ∧ Ext w w' := by
  have HET := Lib.hid (fun (W : World) (hx : Ext w W) => editTake_any (gSt.ext h hx) ia im)
  have HCO := Lib.hid (fun (W : World) (hx : Ext w W) => cutOf_any (gSt.ext h hx) ia im)
  clear ia im
  by_cases h0 : cutE s at_ many = 0
  · have hrt := takes_right h0
    obtain ⟨hfs, i, j, rfl, rfl, hij⟩ := cut_inside h0
    have hla3 : s.1.length ≤ 300 := hfs.2.1
    have HDO := Lib.hid (fun (W : World) (hx : Ext w W) (G : Nat → Prop) (x : Value) (hl : RSl RDe 7 G W x (cutV s i j)) => doOf_any (gSt.ext h hx) hl hfs hrt)
    rw [h0] at HET HCO
    have hfit := fun t (k : doDs s (cutV s i j) = some t) => doDs_fit hfs hrt k
    have hct := fun t (k : doDs s (cutV s i j) = some t) => cut_facts h0 k
    clear h0 hrt hfs
    obtain ⟨v, y, rfl, h1, h2⟩ := h
    obtain ⟨la, lg⟩ := s
    simp only at h1 h2 hla3 hij hct hfit
    have HTX := Lib.hid (fun (W : World) (hx : Ext w W) => textOf_any (h1.ext gAt hx) hla3)
    obtain ⟨a0, n0, c0, rfl⟩ := h1.slice
    obtain ⟨a1, n1, c1, rfl⟩ := h2.slice
    obtain rfl : n0 = la.length := h1.len.1
    obtain rfl : n1 = lg.length := h2.len.1
    clear h1 h2
    have hsz : (⟨(textA la).toArray⟩ : ByteArray).size = la.length := textA_size la
    generalize cutV (la, lg) i j = l at *
    cases hdo : doDs (la, lg) l with
    | none =>
      rw [hdo] at HDO
      clear hct hfit hdo
      generalize (⟨(textA la).toArray⟩ : ByteArray) = S at *
      clear hsz hij hla3
      go_enter Try.func9, Try.ntmps9
      go_wp2_with (first | (go_at_call 33; go_must ((with_reducible refine (HET.out _ extA).mono ?_); rintro e w1 ⟨v1, rfl, hv1, hx1⟩; obtain ⟨a2, n2, c2, rfl⟩ := hv1.slice; have HV1 := Lib.hid hv1; clear hv1; have hs1 := hx1.size; (try simp at hs1); have l1 : w.heap.size < w1.heap.size := (by omega); have p0 := (hx1.cells (w.heap.size) 0 (by first | omega | (simp <;> omega))).trans (show _ = some (.slice a0 la.length c0) by first | assumption | go_simp); have p1 := (hx1.cells (w.heap.size) 1 (by first | omega | (simp <;> omega))).trans (show _ = some (.slice a1 lg.length c1) by first | assumption | go_simp); have HX1 := Lib.hid (show Ext w w1 from ext_trans extA hx1))) | (go_at_call 34; go_must ((with_reducible refine (HCO.out _ (ext_trans HX1.out extA)).mono ?_); rintro e w2 ⟨v2, rfl, hv2, hx2⟩; obtain ⟨a3, n3, c3, rfl⟩ := hv2.slice; have HV2 := Lib.hid hv2; clear hv2; have hs2 := hx2.size; (try simp at hs2); have l2 : w.heap.size < w2.heap.size := (by omega); have q0 := (hx2.cells (w.heap.size) 0 (by first | omega | (simp <;> omega))).trans (show _ = some (.slice a0 la.length c0) by first | assumption | go_simp); have q1 := (hx2.cells (w.heap.size) 1 (by first | omega | (simp <;> omega))).trans (show _ = some (.slice a1 lg.length c1) by first | assumption | go_simp); have HX2 := Lib.hid (show Ext w w2 from ext_trans (ext_trans HX1.out extA) hx2); have HX21 := Lib.hid (show Ext w1 w2 from ext_trans extA hx2))) | (go_at_call 29; go_must ((with_reducible refine (editBegun_any _).mono ?_); rintro e w3 ⟨rfl, hx3⟩; have hs3 := hx3.size; (try simp at hs3); have l3 : w.heap.size < w3.heap.size := (by omega); have r0 := (hx3.cells (w.heap.size) 0 (by first | omega | (simp <;> omega))).trans (show _ = some (.slice a0 la.length c0) by first | assumption | go_simp); have r1 := (hx3.cells (w.heap.size) 1 (by first | omega | (simp <;> omega))).trans (show _ = some (.slice a1 lg.length c1) by first | assumption | go_simp); have HX3 := Lib.hid (show Ext w w3 from ext_trans (ext_trans HX2.out extA) hx3); have HX31 := Lib.hid (show Ext w1 w3 from ext_trans (ext_trans HX21.out extA) hx3); have HX32 := Lib.hid (show Ext w2 w3 from ext_trans extA hx3))) | (go_at_call 35; go_must ((with_reducible refine (sameDeeds_any (HV1.out.ext gDe (ext_trans HX31.out extA)) (HV2.out.ext gDe (ext_trans HX32.out extA))).mono ?_); rintro e w4 ⟨rfl, hx4⟩; have hs4 := hx4.size; (try simp at hs4); have l4 : w.heap.size < w4.heap.size := (by omega); have s0 := (hx4.cells (w.heap.size) 0 (by first | omega | (simp <;> omega))).trans (show _ = some (.slice a0 la.length c0) by first | assumption | go_simp); have s1 := (hx4.cells (w.heap.size) 1 (by first | omega | (simp <;> omega))).trans (show _ = some (.slice a1 lg.length c1) by first | assumption | go_simp); have HX4 := Lib.hid (show Ext w w4 from ext_trans (ext_trans HX3.out extA) hx4); have HX41 := Lib.hid (show Ext w1 w4 from ext_trans (ext_trans HX31.out extA) hx4))) | (go_at_call 36; go_must ((with_reducible refine (HDO.out _ (ext_trans HX4.out extA) _ _ (HV1.out.ext gDe (ext_trans HX41.out extA))).mono ?_); rintro e w6 hraw; obtain ⟨rfl, hx6⟩ := hraw; have hs6 := hx6.size; (try simp at hs6); have l6 : w.heap.size < w6.heap.size := (by omega); have t0 := (hx6.cells (w.heap.size) 0 (by first | omega | (simp <;> omega))).trans (show _ = some (.slice a0 la.length c0) by first | assumption | go_simp); have t1 := (hx6.cells (w.heap.size) 1 (by first | omega | (simp <;> omega))).trans (show _ = some (.slice a1 lg.length c1) by first | assumption | go_simp); have HX6 := Lib.hid (show Ext w w6 from ext_trans (ext_trans HX4.out extA) hx6))) | (go_at_call 37; go_must ((with_reducible refine (HTX.out _ (ext_trans HX6.out extA)).mono ?_); rintro e w7 ⟨rfl, hx7⟩; have hs7 := hx7.size; (try simp at hs7); have l7 : w.heap.size < w7.heap.size := (by omega); have hl7 : w6.heap.size < w7.heap.size := (by omega); have HX7 := Lib.hid (show Ext w w7 from ext_trans (ext_trans HX6.out extA) hx7); have HX76 := Lib.hid (show Ext w6 w7 from ext_trans extA hx7))))
      refine wp_name (fun W5 eW5 => ?_)
      have z0 : w6.heap.size < W5.heap.size := by rw [eW5]; first | assumption | omega | (simp <;> omega)
      have hw5 : Ext w W5 := by rw [eW5]; exact ext_trans HX7.out extA
      clear eW5
      refine wp_region_later fol (by kernel_rfl) (fun hlater => ?_)
      repeat (go_big_quiet_step (fail))
      refine wpQuiet_nil ?_
      rintro W7 ⟨⟨w7x, hx7⟩, rfl⟩
      clear hlater
      go_wp2_with fail
      go_ret
      exact ⟨rfl, ext_trans hw5 hx7⟩
    | some t =>
      rw [hdo] at HDO
      obtain ⟨i', j', e1, e2, _, hta⟩ := hct t hdo
      obtain rfl : i' = i := by omega
      obtain rfl : j' = j := by omega
      have ht3 : t.1.length ≤ 300 := (hfit t hdo).2.1
      clear hct hfit hdo e1 e2
      obtain ⟨ta, tg⟩ := t
      simp only at hta ht3
      have HTY := Lib.hid (fun (W : World) (F : Nat → Prop) (v : Value) (hv : RSl RAt 3 F W v ta) => textOf_any hv ht3)
      rw [cut_str hta] at HTY
      generalize (⟨(textA la).toArray⟩ : ByteArray) = S at *
      have hq1 : i' ≤ S.size := by omega
      have hS3 : S.size ≤ 300 := by omega
      have hq2 : i' + j' ≤ S.size := by omega
      have hq3 : IntKind.i64.wrap ((i' : Int) + (j' : Int)) = ((i' + j' : Nat) : Int) := by rw [IntWalk.i64_in _ (by omega)]; omega
      have HSZ := Lib.hid hsz
      clear hsz hij hla3 hta ht3
      have HQ3 := Lib.hid hq3
      clear hq3
      go_enter Try.func9, Try.ntmps9
      go_wp2_with (first | (go_at_call 33; go_must ((with_reducible refine (HET.out _ extA).mono ?_); rintro e w1 ⟨v1, rfl, hv1, hx1⟩; obtain ⟨a2, n2, c2, rfl⟩ := hv1.slice; have HV1 := Lib.hid hv1; clear hv1; have hs1 := hx1.size; (try simp at hs1); have l1 : w.heap.size < w1.heap.size := (by omega); have p0 := (hx1.cells (w.heap.size) 0 (by first | omega | (simp <;> omega))).trans (show _ = some (.slice a0 la.length c0) by first | assumption | go_simp); have p1 := (hx1.cells (w.heap.size) 1 (by first | omega | (simp <;> omega))).trans (show _ = some (.slice a1 lg.length c1) by first | assumption | go_simp); have HX1 := Lib.hid (show Ext w w1 from ext_trans extA hx1))) | (go_at_call 34; go_must ((with_reducible refine (HCO.out _ (ext_trans HX1.out extA)).mono ?_); rintro e w2 ⟨v2, rfl, hv2, hx2⟩; obtain ⟨a3, n3, c3, rfl⟩ := hv2.slice; have HV2 := Lib.hid hv2; clear hv2; have hs2 := hx2.size; (try simp at hs2); have l2 : w.heap.size < w2.heap.size := (by omega); have q0 := (hx2.cells (w.heap.size) 0 (by first | omega | (simp <;> omega))).trans (show _ = some (.slice a0 la.length c0) by first | assumption | go_simp); have q1 := (hx2.cells (w.heap.size) 1 (by first | omega | (simp <;> omega))).trans (show _ = some (.slice a1 lg.length c1) by first | assumption | go_simp); have HX2 := Lib.hid (show Ext w w2 from ext_trans (ext_trans HX1.out extA) hx2); have HX21 := Lib.hid (show Ext w1 w2 from ext_trans extA hx2))) | (go_at_call 29; go_must ((with_reducible refine (editBegun_any _).mono ?_); rintro e w3 ⟨rfl, hx3⟩; have hs3 := hx3.size; (try simp at hs3); have l3 : w.heap.size < w3.heap.size := (by omega); have r0 := (hx3.cells (w.heap.size) 0 (by first | omega | (simp <;> omega))).trans (show _ = some (.slice a0 la.length c0) by first | assumption | go_simp); have r1 := (hx3.cells (w.heap.size) 1 (by first | omega | (simp <;> omega))).trans (show _ = some (.slice a1 lg.length c1) by first | assumption | go_simp); have HX3 := Lib.hid (show Ext w w3 from ext_trans (ext_trans HX2.out extA) hx3); have HX31 := Lib.hid (show Ext w1 w3 from ext_trans (ext_trans HX21.out extA) hx3); have HX32 := Lib.hid (show Ext w2 w3 from ext_trans extA hx3))) | (go_at_call 35; go_must ((with_reducible refine (sameDeeds_any (HV1.out.ext gDe (ext_trans HX31.out extA)) (HV2.out.ext gDe (ext_trans HX32.out extA))).mono ?_); rintro e w4 ⟨rfl, hx4⟩; have hs4 := hx4.size; (try simp at hs4); have l4 : w.heap.size < w4.heap.size := (by omega); have s0 := (hx4.cells (w.heap.size) 0 (by first | omega | (simp <;> omega))).trans (show _ = some (.slice a0 la.length c0) by first | assumption | go_simp); have s1 := (hx4.cells (w.heap.size) 1 (by first | omega | (simp <;> omega))).trans (show _ = some (.slice a1 lg.length c1) by first | assumption | go_simp); have HX4 := Lib.hid (show Ext w w4 from ext_trans (ext_trans HX3.out extA) hx4); have HX41 := Lib.hid (show Ext w1 w4 from ext_trans (ext_trans HX31.out extA) hx4))) | (go_at_call 36; go_must ((with_reducible refine (HDO.out _ (ext_trans HX4.out extA) _ _ (HV1.out.ext gDe (ext_trans HX41.out extA))).mono ?_); rintro e w6 hraw; obtain ⟨v6, y6, rfl, hv6, hy6, hx6⟩ := hraw; obtain ⟨a8, n8, c8, rfl⟩ := hv6.slice; obtain ⟨a9, n9, c9, rfl⟩ := hy6.slice; have HV6 := Lib.hid hv6; have hs6 := hx6.size; (try simp at hs6); have l6 : w.heap.size < w6.heap.size := (by omega); have t0 := (hx6.cells (w.heap.size) 0 (by first | omega | (simp <;> omega))).trans (show _ = some (.slice a0 la.length c0) by first | assumption | go_simp); have t1 := (hx6.cells (w.heap.size) 1 (by first | omega | (simp <;> omega))).trans (show _ = some (.slice a1 lg.length c1) by first | assumption | go_simp); have HX6 := Lib.hid (show Ext w w6 from ext_trans (ext_trans HX4.out extA) hx6); clear hv6 hy6)) | (go_at_call 37; go_must ((with_reducible refine (HTX.out _ (ext_trans HX6.out extA)).mono ?_); rintro e w7 ⟨rfl, hx7⟩; have hs7 := hx7.size; (try simp at hs7); have l7 : w.heap.size < w7.heap.size := (by omega); have k0 := (hx7.cells (w6.heap.size) 0 (by first | omega | (simp <;> omega))).trans (show _ = some (.slice a8 n8 c8) by first | assumption | go_simp); have hl7 : w6.heap.size < w7.heap.size := (by omega); have HX7 := Lib.hid (show Ext w w7 from ext_trans (ext_trans HX6.out extA) hx7); have HX76 := Lib.hid (show Ext w6 w7 from ext_trans extA hx7))))
      refine wp_name (fun W5 eW5 => ?_)
      have e0 : W5.cell? ⟨w6.heap.size, 0, none⟩ = some (.slice a8 n8 c8) := by rw [eW5]; go_simp
      have z0 : w6.heap.size < W5.heap.size := World.block_lt_of_cell? _ _ e0
      have HV5 := Lib.hid (HV6.out.ext gAt (show Ext w6 W5 by rw [eW5]; exact ext_trans HX76.out extA))
      have hw5 : Ext w W5 := by rw [eW5]; exact ext_trans HX7.out extA
      clear eW5
      have hq3 := HQ3.out
      refine wp_region_later fol (by kernel_rfl) (fun hlater => ?_)
      repeat (go_big_quiet_step ((go_at_call 37; (with_reducible exact later_of (HTY.out _ _ _ (HV5.out.ext gAt (Later.ext _)))))))
      refine wpQuiet_nil ?_
      rintro W7 ⟨⟨w7x, hx7⟩, rfl⟩
      clear hlater hq3
      go_wp2_with fail
      go_ret
      exact ⟨rfl, ext_trans hw5 hx7⟩
  · have t1 : (cutE s at_ many != 0) = true := by simpa using h0
    obtain ⟨v, y, rfl, h1, h2⟩ := h
    obtain ⟨a0, n0, c0, rfl⟩ := h1.slice
    obtain ⟨a1, n1, c1, rfl⟩ := h2.slice
    obtain rfl : n0 = s.1.length := h1.len.1
    obtain rfl : n1 = s.2.length := h2.len.1
    clear h1 h2 h0
    generalize cutV s at_ many = l at *
    generalize cutE s at_ many = er at *
    obtain ⟨la, lg⟩ := s
    simp only
    go_enter Try.func9, Try.ntmps9
    go_wp2_with (first | (go_at_call 33; go_must ((with_reducible refine (HET.out _ extA).mono ?_); rintro e w1 ⟨v1, rfl, hv1, hx1⟩; obtain ⟨a2, n2, c2, rfl⟩ := hv1.slice; have HV1 := Lib.hid hv1; clear hv1; have hs1 := hx1.size; (try simp at hs1); have l1 : w.heap.size < w1.heap.size := (by omega); have p0 := (hx1.cells (w.heap.size) 0 (by first | omega | (simp <;> omega))).trans (show _ = some (.slice a0 la.length c0) by first | assumption | go_simp); have p1 := (hx1.cells (w.heap.size) 1 (by first | omega | (simp <;> omega))).trans (show _ = some (.slice a1 lg.length c1) by first | assumption | go_simp); have HX1 := Lib.hid (show Ext w w1 from ext_trans extA hx1))) | (go_at_call 34; go_must ((with_reducible refine (HCO.out _ (ext_trans HX1.out extA)).mono ?_); rintro e w2 ⟨v2, rfl, hv2, hx2⟩; obtain ⟨a3, n3, c3, rfl⟩ := hv2.slice; have HV2 := Lib.hid hv2; clear hv2; have hs2 := hx2.size; (try simp at hs2); have l2 : w.heap.size < w2.heap.size := (by omega); have q0 := (hx2.cells (w.heap.size) 0 (by first | omega | (simp <;> omega))).trans (show _ = some (.slice a0 la.length c0) by first | assumption | go_simp); have q1 := (hx2.cells (w.heap.size) 1 (by first | omega | (simp <;> omega))).trans (show _ = some (.slice a1 lg.length c1) by first | assumption | go_simp); have HX2 := Lib.hid (show Ext w w2 from ext_trans (ext_trans HX1.out extA) hx2); have HX21 := Lib.hid (show Ext w1 w2 from ext_trans extA hx2))) | (go_at_call 29; go_must ((with_reducible refine (editBegun_any _).mono ?_); rintro e w3 ⟨rfl, hx3⟩; have hs3 := hx3.size; (try simp at hs3); have l3 : w.heap.size < w3.heap.size := (by omega); have r0 := (hx3.cells (w.heap.size) 0 (by first | omega | (simp <;> omega))).trans (show _ = some (.slice a0 la.length c0) by first | assumption | go_simp); have r1 := (hx3.cells (w.heap.size) 1 (by first | omega | (simp <;> omega))).trans (show _ = some (.slice a1 lg.length c1) by first | assumption | go_simp); have HX3 := Lib.hid (show Ext w w3 from ext_trans (ext_trans HX2.out extA) hx3); have HX31 := Lib.hid (show Ext w1 w3 from ext_trans (ext_trans HX21.out extA) hx3); have HX32 := Lib.hid (show Ext w2 w3 from ext_trans extA hx3))) | (go_at_call 35; go_must ((with_reducible refine (sameDeeds_any (HV1.out.ext gDe (ext_trans HX31.out extA)) (HV2.out.ext gDe (ext_trans HX32.out extA))).mono ?_); rintro e w4 ⟨rfl, hx4⟩; have hs4 := hx4.size; (try simp at hs4); have l4 : w.heap.size < w4.heap.size := (by omega); have s0 := (hx4.cells (w.heap.size) 0 (by first | omega | (simp <;> omega))).trans (show _ = some (.slice a0 la.length c0) by first | assumption | go_simp); have s1 := (hx4.cells (w.heap.size) 1 (by first | omega | (simp <;> omega))).trans (show _ = some (.slice a1 lg.length c1) by first | assumption | go_simp); have HX4 := Lib.hid (show Ext w w4 from ext_trans (ext_trans HX3.out extA) hx4); have HX41 := Lib.hid (show Ext w1 w4 from ext_trans (ext_trans HX31.out extA) hx4))))
    go_ret
    exact ⟨rfl, ext_trans HX4.out extA⟩
end Go.Proofs.Ytfgfdohppgoajaa
