/- EditPuts, walked. -/
import Derived.Test.YtfgfdohppgoajaaQ7fc32e5329
import Derived.Test.YtfgfdohppgoajaaQ3e697140f3
set_option linter.unusedVariables false
set_option linter.unusedSimpArgs false
namespace Go.Proofs.Ytfgfdohppgoajaa
open Go Go.RowKit Go.BigFrame Cp

theorem putV_err {s : St} {p : Int} {t : Tx} {site clock : Int} (h : ¬ putE s p t site clock = 0) : putV s p t site clock = [] := by unfold putV; rw [if_neg h]
theorem put_at {s : St} {p : Int} {t : Tx} {site clock : Int} (h : putE s p t site clock = 0) : ∃ k : Nat, p = (k : Int) := by
  obtain ⟨_, ⟨k, hk, _⟩, _⟩ := putE_parts h
  exact ⟨k, hk⟩
set_option maxRecDepth 100000 in
set_option maxHeartbeats 4000000 in
theorem editPuts_any {F : Nat → Prop} {w : World} {cs : List Value} {s : St} {p site clock : Int} {v : Value} {t : Tx} (h : RSt F w cs s) (ip : I64 p) (ht : RTx v t) (ic : I64 clock) :
    Calls Try.prog 8 #[.agg cs.toArray, .int .i64 p, v, .int .i64 site, .int .i64 clock] w fun e w' => e = .returned (.bool true) ∧ Ext w w' := by
  obtain ⟨rfl, hs⟩ := ht
  obtain ⟨u, rfl⟩ : ∃ u : ByteArray, t = u.data.toList := ⟨⟨t.toArray⟩, by simp⟩
  rw [tx_back]
  have hu : u.size ≤ 140737488351232 := by simpa using hs
  have HPU := Lib.hid (fun (W : World) (hx : Ext w W) => editPut_any (site := site) (gSt.ext h hx) ip hu ic)
  have HCP := Lib.hid (fun (W : World) (hx : Ext w W) => checkPut_any (p := p) (site := site) (gSt.ext h hx) hu ic)
  clear hs hu ip ic
  by_cases h0 : putE s p u.data.toList site clock = 0
  · obtain ⟨k, rfl⟩ := put_at h0
    have HIP := Lib.hid (fun (W : World) (hx : Ext w W) (G : Nat → Prop) (x : Value) (hl : RSl RDe 7 G W x (putV s k u.data.toList site clock)) => isPut_any (gSt.ext h hx) hl h0)
    rw [h0] at HPU HCP
    clear h0
    obtain ⟨v, y, rfl, h1, h2⟩ := h
    obtain ⟨a0, n0, c0, rfl⟩ := h1.slice
    obtain ⟨a1, n1, c1, rfl⟩ := h2.slice
    generalize putV s k u.data.toList site clock = l at *
    clear h1 h2
    go_enter Try.func8, Try.ntmps8
    go_wp2_with (first | (go_at_call 30; go_must ((with_reducible refine (HPU.out _ extA).mono ?_); rintro e w1 ⟨v1, rfl, hv1, hx1⟩; obtain ⟨a2, n2, c2, rfl⟩ := hv1.slice; have HV1 := Lib.hid hv1; clear hv1; have hs1 := hx1.size; (try simp at hs1); have l1 : w.heap.size < w1.heap.size := (by omega); have p0 := (hx1.cells (w.heap.size) 0 (by first | omega | (simp <;> omega))).trans (show _ = some (.slice a0 n0 c0) by first | assumption | go_simp); have p1 := (hx1.cells (w.heap.size) 1 (by first | omega | (simp <;> omega))).trans (show _ = some (.slice a1 n1 c1) by first | assumption | go_simp); have HX1 := Lib.hid (show Ext w w1 from ext_trans extA hx1))) | (go_at_call 31; go_must ((with_reducible refine (HCP.out _ (ext_trans HX1.out extA)).mono ?_); rintro e w2 ⟨rfl, hx2⟩; have hs2 := hx2.size; (try simp at hs2); have l2 : w.heap.size < w2.heap.size := (by omega); have q0 := (hx2.cells (w.heap.size) 0 (by first | omega | (simp <;> omega))).trans (show _ = some (.slice a0 n0 c0) by first | assumption | go_simp); have q1 := (hx2.cells (w.heap.size) 1 (by first | omega | (simp <;> omega))).trans (show _ = some (.slice a1 n1 c1) by first | assumption | go_simp); have HX2 := Lib.hid (show Ext w w2 from ext_trans (ext_trans HX1.out extA) hx2); have HX21 := Lib.hid (show Ext w1 w2 from ext_trans extA hx2))) | (go_at_call 29; go_must ((with_reducible refine (editBegun_any _).mono ?_); rintro e w3 ⟨rfl, hx3⟩; have hs3 := hx3.size; (try simp at hs3); have l3 : w.heap.size < w3.heap.size := (by omega); have r0 := (hx3.cells (w.heap.size) 0 (by first | omega | (simp <;> omega))).trans (show _ = some (.slice a0 n0 c0) by first | assumption | go_simp); have r1 := (hx3.cells (w.heap.size) 1 (by first | omega | (simp <;> omega))).trans (show _ = some (.slice a1 n1 c1) by first | assumption | go_simp); have HX3 := Lib.hid (show Ext w w3 from ext_trans (ext_trans HX2.out extA) hx3); have HX31 := Lib.hid (show Ext w1 w3 from ext_trans (ext_trans HX21.out extA) hx3))) | (go_at_call 32; go_must ((with_reducible refine (HIP.out _ (ext_trans HX3.out extA) _ _ (HV1.out.ext gDe (ext_trans HX31.out extA))).mono ?_); rintro e w4 ⟨rfl, hx4⟩; have HX4 := Lib.hid (show Ext w w4 from ext_trans (ext_trans HX3.out extA) hx4))))
    go_ret
    exact ⟨rfl, ext_trans HX4.out extA⟩
  · rw [putV_err h0] at HPU
    generalize putE s p u.data.toList site clock = er at *
    have t1 : (er != 0) = true := by simpa using h0
    clear h0
    obtain ⟨v, y, rfl, h1, h2⟩ := h
    obtain ⟨a0, n0, c0, rfl⟩ := h1.slice
    obtain ⟨a1, n1, c1, rfl⟩ := h2.slice
    clear h1 h2
    go_enter Try.func8, Try.ntmps8
    go_wp2_with (first | (go_at_call 30; go_must ((with_reducible refine (HPU.out _ extA).mono ?_); rintro e w1 ⟨v1, rfl, hv1, hx1⟩; obtain ⟨a2, n2, c2, rfl⟩ := hv1.slice; obtain rfl : n2 = 0 := hv1.len.1; have HV1 := Lib.hid hv1; clear hv1; have hs1 := hx1.size; (try simp at hs1); have l1 : w.heap.size < w1.heap.size := (by omega); have p0 := (hx1.cells (w.heap.size) 0 (by first | omega | (simp <;> omega))).trans (show _ = some (.slice a0 n0 c0) by first | assumption | go_simp); have p1 := (hx1.cells (w.heap.size) 1 (by first | omega | (simp <;> omega))).trans (show _ = some (.slice a1 n1 c1) by first | assumption | go_simp); have HX1 := Lib.hid (show Ext w w1 from ext_trans extA hx1))) | (go_at_call 31; go_must ((with_reducible refine (HCP.out _ (ext_trans HX1.out extA)).mono ?_); rintro e w2 ⟨rfl, hx2⟩; have hs2 := hx2.size; (try simp at hs2); have l2 : w.heap.size < w2.heap.size := (by omega); have q0 := (hx2.cells (w.heap.size) 0 (by first | omega | (simp <;> omega))).trans (show _ = some (.slice a0 n0 c0) by first | assumption | go_simp); have q1 := (hx2.cells (w.heap.size) 1 (by first | omega | (simp <;> omega))).trans (show _ = some (.slice a1 n1 c1) by first | assumption | go_simp); have HX2 := Lib.hid (show Ext w w2 from ext_trans (ext_trans HX1.out extA) hx2); have HX21 := Lib.hid (show Ext w1 w2 from ext_trans extA hx2))) | (go_at_call 29; go_must ((with_reducible refine (editBegun_any _).mono ?_); rintro e w3 ⟨rfl, hx3⟩; have hs3 := hx3.size; (try simp at hs3); have l3 : w.heap.size < w3.heap.size := (by omega); have r0 := (hx3.cells (w.heap.size) 0 (by first | omega | (simp <;> omega))).trans (show _ = some (.slice a0 n0 c0) by first | assumption | go_simp); have r1 := (hx3.cells (w.heap.size) 1 (by first | omega | (simp <;> omega))).trans (show _ = some (.slice a1 n1 c1) by first | assumption | go_simp); have HX3 := Lib.hid (show Ext w w3 from ext_trans (ext_trans HX2.out extA) hx3); have HX31 := Lib.hid (show Ext w1 w3 from ext_trans (ext_trans HX21.out extA) hx3))))
    go_ret
    exact ⟨rfl, ext_trans HX3.out extA⟩
end Go.Proofs.Ytfgfdohppgoajaa
