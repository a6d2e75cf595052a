/- CaretStays, walked. -/
import Derived.Test.YtfgfdohppgoajaaQ50c2d51715
import Derived.Test.YtfgfdohppgoajaaQ6fc31a10ad
import Derived.Test.YtfgfdohppgoajaaQbabeb3fad8
set_option linter.unusedVariables false
set_option linter.unusedSimpArgs false
namespace Go.Proofs.Ytfgfdohppgoajaa
open Go Go.RowKit Go.BigFrame Cp

theorem at_is {s : St} {m : Mk} {n : Int} {w : World} {args : Array Value} (h : caretAt s m = (n, 0)) (k : Calls Try.prog 25 args w (IsTwo (caretAt s m).1 (caretAt s m).2 w)) : Calls Try.prog 25 args w (IsTwo n 0 w) := by
  rw [h] at k; exact k
theorem rst_ownC {B : Nat} {t : St} {w : World} {v u : Value} (h : OwnSt B t w v u) : RSt (fun j => B ≤ j) w [v, u] t := ⟨v, u, rfl, (ownSt_rsl h).1, (ownSt_rsl h).2⟩
theorem allV_errC {s : St} {l : List De} (h : ¬ allE s l = 0) : allV s l = ([], []) := by unfold allV; rw [if_neg h]
set_option maxRecDepth 100000 in
set_option maxHeartbeats 4000000 in
theorem caretStays_any {F G : Nat → Prop} {w : World} {cs : List Value} {s : St} {n : Int} {x : Value} {l : List De} (h : RSt F w cs s) (hi : I64 n) (hl : RSl RDe 7 G w x l) :
    Calls Try.prog 6 #[.agg cs.toArray, .int .i64 n, x] w fun e w' => e = .returned (.bool true) ∧ Ext w w' := by
  have HO := Lib.hid (fun (W : World) (hx : Ext w W) => ofCaret_any (n := n) (gSt.ext h hx) hi)
  have HAL := Lib.hid (fun (W : World) (hx : Ext w W) => all_any (gSt.ext h hx) (hl.ext gDe hx))
  have HAT := Lib.hid (fun (W : World) (hx : Ext w W) (G : Nat → Prop) (ds : List Value) (m : Mk) (hm : RMk G W ds m) => atCaret_any (gSt.ext h hx) hm)
  have HR := Lib.hid (fun h => caret_round (s := s) (n := n) h)
  have HN := Lib.hid (fun h => caretOf_none (s := s) (n := n) h)
  have HS := Lib.hid (fun h h0 => caret_stays (s := s) (n := n) (l := l) h h0)
  have HF := Lib.hid (fun h0 => allV_fit (s := s) (l := l) h0)
  have HER := Lib.hid (fun h => allV_errC (s := s) (l := l) h)
  have HSF := Lib.hid (fun h0 => (allE_ok (s := s) (l := l)).1 h0)
  obtain ⟨v, u, rfl, h1, h2⟩ := h
  obtain ⟨la, lg⟩ := s
  simp only at h1 h2 HO HAL HAT HR HN HS
  have HLA := Lib.hid (fun (W : World) (hx : Ext w W) => h1.ext gAt hx)
  obtain ⟨a0, n0, c0, rfl⟩ := h1.slice
  obtain ⟨a1, n1, c1, rfl⟩ := h2.slice
  obtain ⟨a2, n2, c2, rfl⟩ := hl.slice
  obtain rfl : n0 = la.length := h1.len.1
  obtain rfl : n1 = lg.length := h2.len.1
  obtain rfl : n2 = l.length := hl.len.1
  clear h1 h2 hl hi
  generalize caretOf (la, lg) n = x1 at *
  obtain ⟨⟨p, c⟩, e1⟩ := x1
  simp only at HO HR HN HS
  by_cases h1 : e1 = 0
  · subst h1
    have HB := Lib.hid (HR.out rfl)
    by_cases h0 : allE (la, lg) l = 0
    · obtain ⟨k, hk1, hk2, hk3, hk4⟩ := HS.out rfl h0
      have hft := HF.out h0
      have hla3 : la.length ≤ 300 := (HSF.out h0).1.2.1
      rw [h0] at HAL
      generalize allV (la, lg) l = t1 at *
      obtain ⟨ta, tg⟩ := t1
      have hta3 : ta.length ≤ 300 := hft.2.1
      simp only at hk2 hk3 hk4
      have HK1 := Lib.hid hk1
      have HK3 := Lib.hid hk3
      have HK4 := Lib.hid hk4
      clear h0 hk1 hk3 hk4 hft HS HF HER HR HN HSF
      go_enter Try.func6, Try.ntmps6
      go_wp2_with (first | (go_at_call 23; go_must ((with_reducible refine (caretBegun_any _).mono ?_); rintro e w1 ⟨rfl, hx1⟩; have hs1 := hx1.size; (try simp at hs1); have l1_0 : w.heap.size < w1.heap.size := (by omega); have p0 := (hx1.cells (w.heap.size) 0 (by first | omega | (simp <;> omega))).trans (show _ = some (.slice a0 la.length c0) by first | assumption | go_simp); have p1 := (hx1.cells (w.heap.size) 1 (by first | omega | (simp <;> omega))).trans (show _ = some (.slice a1 lg.length c1) by first | assumption | go_simp); have HX1 := Lib.hid (show Ext w w1 from ext_trans (by repeat (first | (with_reducible exact ext_refl _) | (with_reducible assumption) | (with_reducible refine ext_drew ?_) | (with_reducible refine ext_drewN ?_ _) | (with_reducible refine ext_alloc ?_ _) | (with_reducible refine ext_set ?_ (by first | omega | (simp <;> omega)) _) | (with_reducible refine ext_trans ?_ (by with_reducible assumption)))) hx1))) | (go_at_call 13; go_must ((with_reducible refine (stateBegun_any _).mono ?_); rintro e w2 ⟨rfl, hx2⟩; have hs2 := hx2.size; (try simp at hs2); have l2_0 : w.heap.size < w2.heap.size := (by omega); have q0 := (hx2.cells (w.heap.size) 0 (by first | omega | (simp <;> omega))).trans (show _ = some (.slice a0 la.length c0) by first | assumption | go_simp); have q1 := (hx2.cells (w.heap.size) 1 (by first | omega | (simp <;> omega))).trans (show _ = some (.slice a1 lg.length c1) by first | assumption | go_simp); have HX2 := Lib.hid (show Ext w w2 from ext_trans (ext_trans HX1.out (by repeat (first | (with_reducible exact ext_refl _) | (with_reducible assumption) | (with_reducible refine ext_drew ?_) | (with_reducible refine ext_drewN ?_ _) | (with_reducible refine ext_alloc ?_ _) | (with_reducible refine ext_set ?_ (by first | omega | (simp <;> omega)) _) | (with_reducible refine ext_trans ?_ (by with_reducible assumption))))) hx2))) | (go_at_call 24; go_must ((with_reducible refine (HO.out _ (ext_trans HX2.out (by repeat (first | (with_reducible exact ext_refl _) | (with_reducible assumption) | (with_reducible refine ext_drew ?_) | (with_reducible refine ext_drewN ?_ _) | (with_reducible refine ext_alloc ?_ _) | (with_reducible refine ext_set ?_ (by first | omega | (simp <;> omega)) _) | (with_reducible refine ext_trans ?_ (by with_reducible assumption)))))).mono ?_); rintro e w3 ⟨cs3, rfl, hm3, hx3⟩; obtain ⟨v3, rfl, hv3, hi3⟩ := hm3; obtain ⟨a3, n3, c3, rfl⟩ := hv3.slice; obtain rfl : n3 = p.length := hv3.len.1; have HV3 := Lib.hid hv3; have HI3 := Lib.hid hi3; clear hv3 hi3; have hs3 := hx3.size; (try simp at hs3); have l3_0 : w.heap.size < w3.heap.size := (by omega); have r0 := (hx3.cells (w.heap.size) 0 (by first | omega | (simp <;> omega))).trans (show _ = some (.slice a0 la.length c0) by first | assumption | go_simp); have r1 := (hx3.cells (w.heap.size) 1 (by first | omega | (simp <;> omega))).trans (show _ = some (.slice a1 lg.length c1) by first | assumption | go_simp); have HX3 := Lib.hid (show Ext w w3 from ext_trans (ext_trans HX2.out (by repeat (first | (with_reducible exact ext_refl _) | (with_reducible assumption) | (with_reducible refine ext_drew ?_) | (with_reducible refine ext_drewN ?_ _) | (with_reducible refine ext_alloc ?_ _) | (with_reducible refine ext_set ?_ (by first | omega | (simp <;> omega)) _) | (with_reducible refine ext_trans ?_ (by with_reducible assumption))))) hx3))) | (go_at_call 25; ((with_reducible refine (at_is HB.out (HAT.out _ (ext_trans HX3.out (by repeat (first | (with_reducible exact ext_refl _) | (with_reducible assumption) | (with_reducible refine ext_drew ?_) | (with_reducible refine ext_drewN ?_ _) | (with_reducible refine ext_alloc ?_ _) | (with_reducible refine ext_set ?_ (by first | omega | (simp <;> omega)) _) | (with_reducible refine ext_trans ?_ (by with_reducible assumption))))) _ _ _ (rmk_of' (HV3.out.ext gStp (by repeat (first | (with_reducible exact ext_refl _) | (with_reducible assumption) | (with_reducible refine ext_drew ?_) | (with_reducible refine ext_drewN ?_ _) | (with_reducible refine ext_alloc ?_ _) | (with_reducible refine ext_set ?_ (by first | omega | (simp <;> omega)) _) | (with_reducible refine ext_trans ?_ (by with_reducible assumption))))) HI3.out))).mono ?_); rintro e w4 ⟨rfl, hx4⟩; clear HB; have hs4 := hx4.size; (try simp at hs4); have l4_0 : w.heap.size < w4.heap.size := (by omega); have l4_1 : w3.heap.size < w4.heap.size := (by omega); have s0 := (hx4.cells (w.heap.size) 0 (by first | omega | (simp <;> omega))).trans (show _ = some (.slice a0 la.length c0) by first | assumption | go_simp); have s1 := (hx4.cells (w.heap.size) 1 (by first | omega | (simp <;> omega))).trans (show _ = some (.slice a1 lg.length c1) by first | assumption | go_simp); have s2 := (hx4.cells (w3.heap.size) 0 (by first | omega | (simp <;> omega))).trans (show _ = some (.slice a3 p.length c3) by first | assumption | go_simp); have s3 := (hx4.cells (w3.heap.size) 1 (by first | omega | (simp <;> omega))).trans (show _ = some (.int .i64 c) by first | assumption | go_simp); have HX4 := Lib.hid (show Ext w w4 from ext_trans (ext_trans HX3.out (by repeat (first | (with_reducible exact ext_refl _) | (with_reducible assumption) | (with_reducible refine ext_drew ?_) | (with_reducible refine ext_drewN ?_ _) | (with_reducible refine ext_alloc ?_ _) | (with_reducible refine ext_set ?_ (by first | omega | (simp <;> omega)) _) | (with_reducible refine ext_trans ?_ (by with_reducible assumption))))) hx4); have HX43 := Lib.hid (show Ext w3 w4 from ext_trans (by repeat (first | (with_reducible exact ext_refl _) | (with_reducible assumption) | (with_reducible refine ext_drew ?_) | (with_reducible refine ext_drewN ?_ _) | (with_reducible refine ext_alloc ?_ _) | (with_reducible refine ext_set ?_ (by first | omega | (simp <;> omega)) _) | (with_reducible refine ext_trans ?_ (by with_reducible assumption)))) hx4))) | (go_at_call 11; go_must ((with_reducible refine (HAL.out _ (ext_trans HX4.out (by repeat (first | (with_reducible exact ext_refl _) | (with_reducible assumption) | (with_reducible refine ext_drew ?_) | (with_reducible refine ext_drewN ?_ _) | (with_reducible refine ext_alloc ?_ _) | (with_reducible refine ext_set ?_ (by first | omega | (simp <;> omega)) _) | (with_reducible refine ext_trans ?_ (by with_reducible assumption)))))).mono ?_); rintro e w5 ⟨v5, u5, rfl, ho5, hx5⟩; obtain ⟨a4, n4, c4, rfl⟩ := osl_slice ho5.1; obtain ⟨a5, n5, c5, rfl⟩ := osl_slice ho5.2.1; obtain rfl : n4 = ta.length := (osl_len ho5.1).1; have HA5 := Lib.hid (ownSt_rsl ho5).1; have HG5 := Lib.hid (ownSt_rsl ho5).2; have HS5 := Lib.hid (rst_ownC ho5); have hs5 := hx5.size; (try simp at hs5); have l5_0 : w.heap.size < w5.heap.size := (by omega); have l5_1 : w3.heap.size < w5.heap.size := (by omega); have t0 := (hx5.cells (w.heap.size) 0 (by first | omega | (simp <;> omega))).trans (show _ = some (.slice a0 la.length c0) by first | assumption | go_simp); have t1 := (hx5.cells (w.heap.size) 1 (by first | omega | (simp <;> omega))).trans (show _ = some (.slice a1 lg.length c1) by first | assumption | go_simp); have t2 := (hx5.cells (w3.heap.size) 0 (by first | omega | (simp <;> omega))).trans (show _ = some (.slice a3 p.length c3) by first | assumption | go_simp); have t3 := (hx5.cells (w3.heap.size) 1 (by first | omega | (simp <;> omega))).trans (show _ = some (.int .i64 c) by first | assumption | go_simp); have HX5 := Lib.hid (show Ext w w5 from ext_trans (ext_trans HX4.out (by repeat (first | (with_reducible exact ext_refl _) | (with_reducible assumption) | (with_reducible refine ext_drew ?_) | (with_reducible refine ext_drewN ?_ _) | (with_reducible refine ext_alloc ?_ _) | (with_reducible refine ext_set ?_ (by first | omega | (simp <;> omega)) _) | (with_reducible refine ext_trans ?_ (by with_reducible assumption))))) hx5); have HX53 := Lib.hid (show Ext w3 w5 from ext_trans (ext_trans HX43.out (by repeat (first | (with_reducible exact ext_refl _) | (with_reducible assumption) | (with_reducible refine ext_drew ?_) | (with_reducible refine ext_drewN ?_ _) | (with_reducible refine ext_alloc ?_ _) | (with_reducible refine ext_set ?_ (by first | omega | (simp <;> omega)) _) | (with_reducible refine ext_trans ?_ (by with_reducible assumption))))) hx5); clear ho5)) | (go_at_call 25; go_must ((with_reducible refine (at_is HK1.out (atCaret_any (gSt.ext HS5.out (by repeat (first | (with_reducible exact ext_refl _) | (with_reducible assumption) | (with_reducible refine ext_drew ?_) | (with_reducible refine ext_drewN ?_ _) | (with_reducible refine ext_alloc ?_ _) | (with_reducible refine ext_set ?_ (by first | omega | (simp <;> omega)) _) | (with_reducible refine ext_trans ?_ (by with_reducible assumption))))) (rmk_of' (HV3.out.ext gStp (ext_trans HX53.out (by repeat (first | (with_reducible exact ext_refl _) | (with_reducible assumption) | (with_reducible refine ext_drew ?_) | (with_reducible refine ext_drewN ?_ _) | (with_reducible refine ext_alloc ?_ _) | (with_reducible refine ext_set ?_ (by first | omega | (simp <;> omega)) _) | (with_reducible refine ext_trans ?_ (by with_reducible assumption)))))) HI3.out))).mono ?_); rintro e w6 ⟨rfl, hx6⟩; have hs6 := hx6.size; (try simp at hs6); have l6_0 : w.heap.size < w6.heap.size := (by omega); have l6_1 : w3.heap.size < w6.heap.size := (by omega); have l6_2 : w5.heap.size < w6.heap.size := (by omega); have u0 := (hx6.cells (w.heap.size) 0 (by first | omega | (simp <;> omega))).trans (show _ = some (.slice a0 la.length c0) by first | assumption | go_simp); have u1 := (hx6.cells (w.heap.size) 1 (by first | omega | (simp <;> omega))).trans (show _ = some (.slice a1 lg.length c1) by first | assumption | go_simp); have u2 := (hx6.cells (w3.heap.size) 0 (by first | omega | (simp <;> omega))).trans (show _ = some (.slice a3 p.length c3) by first | assumption | go_simp); have u3 := (hx6.cells (w3.heap.size) 1 (by first | omega | (simp <;> omega))).trans (show _ = some (.int .i64 c) by first | assumption | go_simp); have u4 := (hx6.cells (w5.heap.size) 0 (by first | omega | (simp <;> omega))).trans (show _ = some (.slice a4 ta.length c4) by first | assumption | go_simp); have u5 := (hx6.cells (w5.heap.size) 1 (by first | omega | (simp <;> omega))).trans (show _ = some (.slice a5 n5 c5) by first | assumption | go_simp); have HX6 := Lib.hid (show Ext w w6 from ext_trans (ext_trans HX5.out (by repeat (first | (with_reducible exact ext_refl _) | (with_reducible assumption) | (with_reducible refine ext_drew ?_) | (with_reducible refine ext_drewN ?_ _) | (with_reducible refine ext_alloc ?_ _) | (with_reducible refine ext_set ?_ (by first | omega | (simp <;> omega)) _) | (with_reducible refine ext_trans ?_ (by with_reducible assumption))))) hx6); have HX63 := Lib.hid (show Ext w3 w6 from ext_trans (ext_trans HX53.out (by repeat (first | (with_reducible exact ext_refl _) | (with_reducible assumption) | (with_reducible refine ext_drew ?_) | (with_reducible refine ext_drewN ?_ _) | (with_reducible refine ext_alloc ?_ _) | (with_reducible refine ext_set ?_ (by first | omega | (simp <;> omega)) _) | (with_reducible refine ext_trans ?_ (by with_reducible assumption))))) hx6); have HX65 := Lib.hid (show Ext w5 w6 from ext_trans (by repeat (first | (with_reducible exact ext_refl _) | (with_reducible assumption) | (with_reducible refine ext_drew ?_) | (with_reducible refine ext_drewN ?_ _) | (with_reducible refine ext_alloc ?_ _) | (with_reducible refine ext_set ?_ (by first | omega | (simp <;> omega)) _) | (with_reducible refine ext_trans ?_ (by with_reducible assumption)))) hx6))))
      refine wp_name (fun wb ewb => ?_)
      have b0 : wb.cell? ⟨w.heap.size, 0, none⟩ = some (.slice a0 la.length c0) := by rw [ewb]; go_simp
      have b1 : wb.cell? ⟨w.heap.size, 1, none⟩ = some (.slice a1 lg.length c1) := by rw [ewb]; go_simp
      have b2 : wb.cell? ⟨w3.heap.size, 0, none⟩ = some (.slice a3 p.length c3) := by rw [ewb]; go_simp
      have b3 : wb.cell? ⟨w3.heap.size, 1, none⟩ = some (.int .i64 c) := by rw [ewb]; go_simp
      have b4 : wb.cell? ⟨w5.heap.size, 0, none⟩ = some (.slice a4 ta.length c4) := by rw [ewb]; go_simp
      have b5 : wb.cell? ⟨w5.heap.size, 1, none⟩ = some (.slice a5 n5 c5) := by rw [ewb]; go_simp
      have HWB := Lib.hid (show Ext w wb by rw [ewb]; exact ext_trans HX6.out (by repeat (first | (with_reducible exact ext_refl _) | (with_reducible assumption) | (with_reducible refine ext_drew ?_) | (with_reducible refine ext_drewN ?_ _) | (with_reducible refine ext_alloc ?_ _) | (with_reducible refine ext_set ?_ (by first | omega | (simp <;> omega)) _) | (with_reducible refine ext_trans ?_ (by with_reducible assumption)))))
      have HTA := Lib.hid (show RSl RAt 3 (fun j => j < wb.heap.size) wb (.slice a4 ta.length c4) ta from RSl.more gAt (fun _ _ h => h) (by rw [ewb]; exact HA5.out.ext gAt (ext_trans HX65.out (by repeat (first | (with_reducible exact ext_refl _) | (with_reducible assumption) | (with_reducible refine ext_drew ?_) | (with_reducible refine ext_drewN ?_ _) | (with_reducible refine ext_alloc ?_ _) | (with_reducible refine ext_set ?_ (by first | omega | (simp <;> omega)) _) | (with_reducible refine ext_trans ?_ (by with_reducible assumption)))))))
      have HTG := Lib.hid (show RSl RMk 2 (fun j => j < wb.heap.size) wb (.slice a5 n5 c5) tg from RSl.more gMk (fun _ _ h => h) (by rw [ewb]; exact HG5.out.ext gMk (ext_trans HX65.out (by repeat (first | (with_reducible exact ext_refl _) | (with_reducible assumption) | (with_reducible refine ext_drew ?_) | (with_reducible refine ext_drewN ?_ _) | (with_reducible refine ext_alloc ?_ _) | (with_reducible refine ext_set ?_ (by first | omega | (simp <;> omega)) _) | (with_reducible refine ext_trans ?_ (by with_reducible assumption)))))))
      have HPM := Lib.hid (show RSl RStp 2 (fun j => j < wb.heap.size) wb (.slice a3 p.length c3) p from RSl.more gStp (fun _ _ h => h) (by rw [ewb]; exact HV3.out.ext gStp (ext_trans HX63.out (by repeat (first | (with_reducible exact ext_refl _) | (with_reducible assumption) | (with_reducible refine ext_drew ?_) | (with_reducible refine ext_drewN ?_ _) | (with_reducible refine ext_alloc ?_ _) | (with_reducible refine ext_set ?_ (by first | omega | (simp <;> omega)) _) | (with_reducible refine ext_trans ?_ (by with_reducible assumption)))))))
      have hb_0 : w.heap.size < wb.heap.size := World.block_lt_of_cell? _ _ b0
      have hb_1 : w3.heap.size < wb.heap.size := World.block_lt_of_cell? _ _ b2
      have hb_2 : w5.heap.size < wb.heap.size := World.block_lt_of_cell? _ _ b4
      clear ewb HA5 HG5 HV3 HX6 HX65 HX63 HX1 HX2 HX3 HX4 HX5 hx1 hx2 hx3 hx4 hx5 hx6 HAL HAT HO HK1
      go_loopw [12] (fun iv wr => ∃ i : Nat, i ≤ la.length ∧ iv = .int .i64 i ∧ Hid (Ext wb wr)) (fun iv _ => la.length - (intOf iv).toNat)
      case atStart => exact ⟨0, Nat.zero_le _, rfl, Lib.hid (ext_refl _)⟩
      case round =>
        obtain ⟨i, hil, rfl, HXB⟩ := hrel
        have x0 := (HXB.out.cells _ _ hb_0).trans b0
        have x1 := (HXB.out.cells _ _ hb_0).trans b1
        have x2 := (HXB.out.cells _ _ hb_1).trans b2
        have x3 := (HXB.out.cells _ _ hb_1).trans b3
        have x4 := (HXB.out.cells _ _ hb_2).trans b4
        have x5 := (HXB.out.cells _ _ hb_2).trans b5
        have HX := Lib.hid (ext_trans HWB.out HXB.out)
        have hsr := HXB.out.size
        have hr_0 : w.heap.size < wr.heap.size := by omega
        have hr_1 : w3.heap.size < wr.heap.size := by omega
        have hr_2 : w5.heap.size < wr.heap.size := by omega
        by_cases hlt : i < la.length
        · obtain ⟨b, o, q, d, u, aq, cq, rfl, hb, ek, ick, hqq, y0, y1, y2⟩ := atm_at (HLA.out wr HX.out) hlt
          have HQ := Lib.hid hqq
          have HD := Lib.hid ick
          have HE := Lib.hid ek
          clear hqq ick ek
          have hbr : b < wr.heap.size := hb
          go_wp2_with fail
          refine wp_name (fun wc ewc => ?_)
          have fc0 : wc.cell? ⟨w.heap.size, 0, none⟩ = some (.slice (some ⟨b, o, none⟩) la.length c0) := by rw [ewc]; go_simp
          have fc1 : wc.cell? ⟨w.heap.size, 1, none⟩ = some (.slice a1 lg.length c1) := by rw [ewc]; go_simp
          have fc2 : wc.cell? ⟨w3.heap.size, 0, none⟩ = some (.slice a3 p.length c3) := by rw [ewc]; go_simp
          have fc3 : wc.cell? ⟨w3.heap.size, 1, none⟩ = some (.int .i64 c) := by rw [ewc]; go_simp
          have fc4 : wc.cell? ⟨w5.heap.size, 0, none⟩ = some (.slice a4 ta.length c4) := by rw [ewc]; go_simp
          have fc5 : wc.cell? ⟨w5.heap.size, 1, none⟩ = some (.slice a5 n5 c5) := by rw [ewc]; go_simp
          have fc6 : wc.cell? ⟨b, o + i * 3, none⟩ = some (.slice aq q.length cq) := by rw [ewc]; go_simp
          have fc7 : wc.cell? ⟨b, o + i * 3 + 1, none⟩ = some (.int .i64 d) := by rw [ewc]; go_simp
          have fc8 : wc.cell? ⟨b, o + i * 3 + 2, none⟩ = some (.int .u8 u.toNat) := by rw [ewc]; go_simp
          have hc_0 : w.heap.size < wc.heap.size := by rw [ewc]; first | assumption | omega | (simp <;> omega)
          have hc_1 : w3.heap.size < wc.heap.size := by rw [ewc]; first | assumption | omega | (simp <;> omega)
          have hc_2 : w5.heap.size < wc.heap.size := by rw [ewc]; first | assumption | omega | (simp <;> omega)
          have hc_3 : b < wc.heap.size := by rw [ewc]; first | assumption | omega | (simp <;> omega)
          have HXC := Lib.hid (show Ext wr wc by rw [ewc]; exact (by repeat (first | (with_reducible exact ext_refl _) | (with_reducible assumption) | (with_reducible refine ext_drew ?_) | (with_reducible refine ext_drewN ?_ _) | (with_reducible refine ext_alloc ?_ _) | (with_reducible refine ext_set ?_ (by first | omega | (simp <;> omega)) _) | (with_reducible refine ext_trans ?_ (by with_reducible assumption)))))
          have hcs := HXC.out.size
          clear ewc x0 x1 x2 x3 x4 x5 y0 y1 y2
          go_loopw [13] (fun jv wr2 => ∃ j : Nat, j ≤ ta.length ∧ jv = .int .i64 j ∧ Hid (Ext wc wr2)) (fun jv _ => ta.length - (intOf jv).toNat)
          case atStart => exact ⟨0, Nat.zero_le _, rfl, Lib.hid (ext_refl _)⟩
          case round =>
            obtain ⟨j, hjl, rfl, HXD⟩ := hrel
            have x0 := (HXD.out.cells _ _ hc_0).trans fc0
            have x1 := (HXD.out.cells _ _ hc_0).trans fc1
            have x2 := (HXD.out.cells _ _ hc_1).trans fc2
            have x3 := (HXD.out.cells _ _ hc_1).trans fc3
            have x4 := (HXD.out.cells _ _ hc_2).trans fc4
            have x5 := (HXD.out.cells _ _ hc_2).trans fc5
            have x6 := (HXD.out.cells _ _ hc_3).trans fc6
            have x7 := (HXD.out.cells _ _ hc_3).trans fc7
            have x8 := (HXD.out.cells _ _ hc_3).trans fc8
            have hdr := HXD.out.size
            have hq_0 : w.heap.size < wr.heap.size := by omega
            have hq_1 : w3.heap.size < wr.heap.size := by omega
            have hq_2 : w5.heap.size < wr.heap.size := by omega
            have hq_3 : b < wr.heap.size := by omega
            by_cases hlt2 : j < ta.length
            · obtain ⟨b', o', q', d', u', aq', cq', rfl, hb', ek', ick', hqq', y3, y4, y5⟩ := atm_at (HTA.out.ext gAt (ext_trans HXB.out (ext_trans HXC.out HXD.out))) hlt2
              have HSM := Lib.hid (fun (W : World) (hx : Ext wr W) => same_any (rmk_of' (HQ.out.ext gStp (ext_trans HXC.out (ext_trans HXD.out hx))) HD.out) (rmk_of' (hqq'.ext gStp hx) ick'))
              have hd9 := HK3.out i j _ _ HE.out ek'
              have hbr' : b' < wr.heap.size := hb'
              clear ek' ick' hqq'
              cases ho : (ordM (q, d) (q', d') == 0) with
              | false =>
                rw [ho] at HSM
                clear hd9 ho
                go_wp2_with fail
                refine wp_name (fun W2 eW2 => ?_)
                have e0 : W2.cell? ⟨w.heap.size, 0, none⟩ = some (.slice (some ⟨b, o, none⟩) la.length c0) := by rw [eW2]; go_simp
                have e1 : W2.cell? ⟨w.heap.size, 1, none⟩ = some (.slice a1 lg.length c1) := by rw [eW2]; go_simp
                have e2 : W2.cell? ⟨w3.heap.size, 0, none⟩ = some (.slice a3 p.length c3) := by rw [eW2]; go_simp
                have e3 : W2.cell? ⟨w3.heap.size, 1, none⟩ = some (.int .i64 c) := by rw [eW2]; go_simp
                have e4 : W2.cell? ⟨w5.heap.size, 0, none⟩ = some (.slice (some ⟨b', o', none⟩) ta.length c4) := by rw [eW2]; go_simp
                have e5 : W2.cell? ⟨w5.heap.size, 1, none⟩ = some (.slice a5 n5 c5) := by rw [eW2]; go_simp
                have e6 : W2.cell? ⟨b, o + i * 3, none⟩ = some (.slice aq q.length cq) := by rw [eW2]; go_simp
                have e7 : W2.cell? ⟨b, o + i * 3 + 1, none⟩ = some (.int .i64 d) := by rw [eW2]; go_simp
                have e8 : W2.cell? ⟨b, o + i * 3 + 2, none⟩ = some (.int .u8 u.toNat) := by rw [eW2]; go_simp
                have e9 : W2.cell? ⟨b', o' + j * 3, none⟩ = some (.slice aq' q'.length cq') := by rw [eW2]; go_simp
                have e10 : W2.cell? ⟨b', o' + j * 3 + 1, none⟩ = some (.int .i64 d') := by rw [eW2]; go_simp
                have e11 : W2.cell? ⟨b', o' + j * 3 + 2, none⟩ = some (.int .u8 u'.toNat) := by rw [eW2]; go_simp
                have zW2_0 : w.heap.size < W2.heap.size := by rw [eW2]; first | assumption | omega | (simp <;> omega)
                have zW2_1 : w3.heap.size < W2.heap.size := by rw [eW2]; first | assumption | omega | (simp <;> omega)
                have zW2_2 : w5.heap.size < W2.heap.size := by rw [eW2]; first | assumption | omega | (simp <;> omega)
                have zW2_3 : b < W2.heap.size := by rw [eW2]; first | assumption | omega | (simp <;> omega)
                have zW2_4 : b' < W2.heap.size := by rw [eW2]; first | assumption | omega | (simp <;> omega)
                have hw2 : Ext wr W2 := by rw [eW2]; exact (by repeat (first | (with_reducible exact ext_refl _) | (with_reducible assumption) | (with_reducible refine ext_drew ?_) | (with_reducible refine ext_drewN ?_ _) | (with_reducible refine ext_alloc ?_ _) | (with_reducible refine ext_set ?_ (by first | omega | (simp <;> omega)) _) | (with_reducible refine ext_trans ?_ (by with_reducible assumption))))
                clear eW2
                refine wp_region_later fol (by kernel_rfl) (fun hlater => ?_)
                repeat (go_big_quiet_step ((first
                    | (go_at_call 26; (with_reducible exact later_of (HSM.out _ (ext_trans hw2 (Later.ext _))))))))
                refine wpQuiet_nil ?_
                rintro W3 ⟨⟨w3x, hx3x⟩, rfl⟩
                clear hlater
                go_wp2_with fail
                go_roundw
                case rel => exact ⟨j + 1, by omega, by go_num, Lib.hid (ext_trans HXD.out (ext_trans hw2 hx3x))⟩
                case measure => simp [intOf]; omega
              | true =>
                rw [ho] at HSM
                have hd8 := hd9 ho
                clear hd9 ho
                cases hin : decide ((i : Int) < n) with
                | false =>
                  rw [hin] at hd8
                  have hjk : decide ((j : Int) < (k : Int)) = false := by rw [← hd8]; simp
                  have hjp : ¬ j < k := by simpa using hd8
                  clear hd8
                  go_wp2_with fail
                  refine wp_name (fun W2 eW2 => ?_)
                  have e0 : W2.cell? ⟨w.heap.size, 0, none⟩ = some (.slice (some ⟨b, o, none⟩) la.length c0) := by rw [eW2]; go_simp
                  have e1 : W2.cell? ⟨w.heap.size, 1, none⟩ = some (.slice a1 lg.length c1) := by rw [eW2]; go_simp
                  have e2 : W2.cell? ⟨w3.heap.size, 0, none⟩ = some (.slice a3 p.length c3) := by rw [eW2]; go_simp
                  have e3 : W2.cell? ⟨w3.heap.size, 1, none⟩ = some (.int .i64 c) := by rw [eW2]; go_simp
                  have e4 : W2.cell? ⟨w5.heap.size, 0, none⟩ = some (.slice (some ⟨b', o', none⟩) ta.length c4) := by rw [eW2]; go_simp
                  have e5 : W2.cell? ⟨w5.heap.size, 1, none⟩ = some (.slice a5 n5 c5) := by rw [eW2]; go_simp
                  have e6 : W2.cell? ⟨b, o + i * 3, none⟩ = some (.slice aq q.length cq) := by rw [eW2]; go_simp
                  have e7 : W2.cell? ⟨b, o + i * 3 + 1, none⟩ = some (.int .i64 d) := by rw [eW2]; go_simp
                  have e8 : W2.cell? ⟨b, o + i * 3 + 2, none⟩ = some (.int .u8 u.toNat) := by rw [eW2]; go_simp
                  have e9 : W2.cell? ⟨b', o' + j * 3, none⟩ = some (.slice aq' q'.length cq') := by rw [eW2]; go_simp
                  have e10 : W2.cell? ⟨b', o' + j * 3 + 1, none⟩ = some (.int .i64 d') := by rw [eW2]; go_simp
                  have e11 : W2.cell? ⟨b', o' + j * 3 + 2, none⟩ = some (.int .u8 u'.toNat) := by rw [eW2]; go_simp
                  have zW2_0 : w.heap.size < W2.heap.size := by rw [eW2]; first | assumption | omega | (simp <;> omega)
                  have zW2_1 : w3.heap.size < W2.heap.size := by rw [eW2]; first | assumption | omega | (simp <;> omega)
                  have zW2_2 : w5.heap.size < W2.heap.size := by rw [eW2]; first | assumption | omega | (simp <;> omega)
                  have zW2_3 : b < W2.heap.size := by rw [eW2]; first | assumption | omega | (simp <;> omega)
                  have zW2_4 : b' < W2.heap.size := by rw [eW2]; first | assumption | omega | (simp <;> omega)
                  have hw2 : Ext wr W2 := by rw [eW2]; exact (by repeat (first | (with_reducible exact ext_refl _) | (with_reducible assumption) | (with_reducible refine ext_drew ?_) | (with_reducible refine ext_drewN ?_ _) | (with_reducible refine ext_alloc ?_ _) | (with_reducible refine ext_set ?_ (by first | omega | (simp <;> omega)) _) | (with_reducible refine ext_trans ?_ (by with_reducible assumption))))
                  clear eW2
                  refine wp_region_later fol (by kernel_rfl) (fun hlater => ?_)
                  repeat (go_big_quiet_step ((first
                      | (go_at_call 26; (with_reducible exact later_of (HSM.out _ (ext_trans hw2 (Later.ext _))))))))
                  refine wpQuiet_nil ?_
                  rintro W3 ⟨⟨w3x, hx3x⟩, rfl⟩
                  clear hlater
                  go_wp2_with fail
                  go_roundw
                  case rel => exact ⟨j + 1, by omega, by go_num, Lib.hid (ext_trans HXD.out (ext_trans hw2 hx3x))⟩
                  case measure => simp [intOf]; omega
                | true =>
                  rw [hin] at hd8
                  have hjk : decide ((j : Int) < (k : Int)) = true := by rw [← hd8]; simp
                  have hjp : j < k := by simpa using hd8
                  clear hd8
                  go_wp2_with fail
                  refine wp_name (fun W2 eW2 => ?_)
                  have e0 : W2.cell? ⟨w.heap.size, 0, none⟩ = some (.slice (some ⟨b, o, none⟩) la.length c0) := by rw [eW2]; go_simp
                  have e1 : W2.cell? ⟨w.heap.size, 1, none⟩ = some (.slice a1 lg.length c1) := by rw [eW2]; go_simp
                  have e2 : W2.cell? ⟨w3.heap.size, 0, none⟩ = some (.slice a3 p.length c3) := by rw [eW2]; go_simp
                  have e3 : W2.cell? ⟨w3.heap.size, 1, none⟩ = some (.int .i64 c) := by rw [eW2]; go_simp
                  have e4 : W2.cell? ⟨w5.heap.size, 0, none⟩ = some (.slice (some ⟨b', o', none⟩) ta.length c4) := by rw [eW2]; go_simp
                  have e5 : W2.cell? ⟨w5.heap.size, 1, none⟩ = some (.slice a5 n5 c5) := by rw [eW2]; go_simp
                  have e6 : W2.cell? ⟨b, o + i * 3, none⟩ = some (.slice aq q.length cq) := by rw [eW2]; go_simp
                  have e7 : W2.cell? ⟨b, o + i * 3 + 1, none⟩ = some (.int .i64 d) := by rw [eW2]; go_simp
                  have e8 : W2.cell? ⟨b, o + i * 3 + 2, none⟩ = some (.int .u8 u.toNat) := by rw [eW2]; go_simp
                  have e9 : W2.cell? ⟨b', o' + j * 3, none⟩ = some (.slice aq' q'.length cq') := by rw [eW2]; go_simp
                  have e10 : W2.cell? ⟨b', o' + j * 3 + 1, none⟩ = some (.int .i64 d') := by rw [eW2]; go_simp
                  have e11 : W2.cell? ⟨b', o' + j * 3 + 2, none⟩ = some (.int .u8 u'.toNat) := by rw [eW2]; go_simp
                  have zW2_0 : w.heap.size < W2.heap.size := by rw [eW2]; first | assumption | omega | (simp <;> omega)
                  have zW2_1 : w3.heap.size < W2.heap.size := by rw [eW2]; first | assumption | omega | (simp <;> omega)
                  have zW2_2 : w5.heap.size < W2.heap.size := by rw [eW2]; first | assumption | omega | (simp <;> omega)
                  have zW2_3 : b < W2.heap.size := by rw [eW2]; first | assumption | omega | (simp <;> omega)
                  have zW2_4 : b' < W2.heap.size := by rw [eW2]; first | assumption | omega | (simp <;> omega)
                  have hw2 : Ext wr W2 := by rw [eW2]; exact (by repeat (first | (with_reducible exact ext_refl _) | (with_reducible assumption) | (with_reducible refine ext_drew ?_) | (with_reducible refine ext_drewN ?_ _) | (with_reducible refine ext_alloc ?_ _) | (with_reducible refine ext_set ?_ (by first | omega | (simp <;> omega)) _) | (with_reducible refine ext_trans ?_ (by with_reducible assumption))))
                  clear eW2
                  refine wp_region_later fol (by kernel_rfl) (fun hlater => ?_)
                  repeat (go_big_quiet_step ((first
                      | (go_at_call 26; (with_reducible exact later_of (HSM.out _ (ext_trans hw2 (Later.ext _))))))))
                  refine wpQuiet_nil ?_
                  rintro W3 ⟨⟨w3x, hx3x⟩, rfl⟩
                  clear hlater
                  go_wp2_with fail
                  go_roundw
                  case rel => exact ⟨j + 1, by omega, by go_num, Lib.hid (ext_trans HXD.out (ext_trans hw2 hx3x))⟩
                  case measure => simp [intOf]; omega
            · go_wp2_with fail
              go_roundw
              case rel => exact ⟨i + 1, by omega, by go_num, Lib.hid (ext_trans HXB.out (ext_trans HXC.out (ext_trans HXD.out (by repeat (first | (with_reducible exact ext_refl _) | (with_reducible assumption) | (with_reducible refine ext_drew ?_) | (with_reducible refine ext_drewN ?_ _) | (with_reducible refine ext_alloc ?_ _) | (with_reducible refine ext_set ?_ (by first | omega | (simp <;> omega)) _) | (with_reducible refine ext_trans ?_ (by with_reducible assumption)))))))⟩
              case measure => simp [intOf]; omega
        · rcases HK4.out with rfl | ⟨hn0, hg | ⟨hg, q, u, rfl, eq⟩⟩
          · have hn0 : ((0 : Int) == 0) = true := rfl
            go_wp2_with fail
            refine wp_name (fun W2 eW2 => ?_)
            have e0 : W2.cell? ⟨w.heap.size, 0, none⟩ = some (.slice a0 la.length c0) := by rw [eW2]; go_simp
            have e1 : W2.cell? ⟨w.heap.size, 1, none⟩ = some (.slice a1 lg.length c1) := by rw [eW2]; go_simp
            have e2 : W2.cell? ⟨w3.heap.size, 0, none⟩ = some (.slice a3 p.length c3) := by rw [eW2]; go_simp
            have e3 : W2.cell? ⟨w3.heap.size, 1, none⟩ = some (.int .i64 c) := by rw [eW2]; go_simp
            have e4 : W2.cell? ⟨w5.heap.size, 0, none⟩ = some (.slice a4 ta.length c4) := by rw [eW2]; go_simp
            have e5 : W2.cell? ⟨w5.heap.size, 1, none⟩ = some (.slice a5 n5 c5) := by rw [eW2]; go_simp
            have zW2_0 : w.heap.size < W2.heap.size := by rw [eW2]; first | assumption | omega | (simp <;> omega)
            have zW2_1 : w3.heap.size < W2.heap.size := by rw [eW2]; first | assumption | omega | (simp <;> omega)
            have zW2_2 : w5.heap.size < W2.heap.size := by rw [eW2]; first | assumption | omega | (simp <;> omega)
            have hw2 : Ext wr W2 := by rw [eW2]; exact (by repeat (first | (with_reducible exact ext_refl _) | (with_reducible assumption) | (with_reducible refine ext_drew ?_) | (with_reducible refine ext_drewN ?_ _) | (with_reducible refine ext_alloc ?_ _) | (with_reducible refine ext_set ?_ (by first | omega | (simp <;> omega)) _) | (with_reducible refine ext_trans ?_ (by with_reducible assumption))))
            clear eW2
            refine wp_region_later fol (by kernel_rfl) (fun hlater => ?_)
            repeat (go_big_quiet_step (fail))
            refine wpQuiet_nil ?_
            rintro W3 ⟨⟨w3x, hx3x⟩, rfl⟩
            clear hlater
            go_wp2_with fail
            go_ret
            exact ⟨rfl, ext_trans HX.out (ext_trans hw2 hx3x)⟩
          · have HHG := Lib.hid (fun (W : World) (hx : Ext wr W) => hasGone_any (HTG.out.ext gMk (ext_trans HXB.out hx)) (rmk_of' (HPM.out.ext gStp (ext_trans HXB.out hx)) HI3.out))
            rw [hg] at HHG
            clear hg
            go_wp2_with fail
            refine wp_name (fun W2 eW2 => ?_)
            have e0 : W2.cell? ⟨w.heap.size, 0, none⟩ = some (.slice a0 la.length c0) := by rw [eW2]; go_simp
            have e1 : W2.cell? ⟨w.heap.size, 1, none⟩ = some (.slice a1 lg.length c1) := by rw [eW2]; go_simp
            have e2 : W2.cell? ⟨w3.heap.size, 0, none⟩ = some (.slice a3 p.length c3) := by rw [eW2]; go_simp
            have e3 : W2.cell? ⟨w3.heap.size, 1, none⟩ = some (.int .i64 c) := by rw [eW2]; go_simp
            have e4 : W2.cell? ⟨w5.heap.size, 0, none⟩ = some (.slice a4 ta.length c4) := by rw [eW2]; go_simp
            have e5 : W2.cell? ⟨w5.heap.size, 1, none⟩ = some (.slice a5 n5 c5) := by rw [eW2]; go_simp
            have zW2_0 : w.heap.size < W2.heap.size := by rw [eW2]; first | assumption | omega | (simp <;> omega)
            have zW2_1 : w3.heap.size < W2.heap.size := by rw [eW2]; first | assumption | omega | (simp <;> omega)
            have zW2_2 : w5.heap.size < W2.heap.size := by rw [eW2]; first | assumption | omega | (simp <;> omega)
            have hw2 : Ext wr W2 := by rw [eW2]; exact (by repeat (first | (with_reducible exact ext_refl _) | (with_reducible assumption) | (with_reducible refine ext_drew ?_) | (with_reducible refine ext_drewN ?_ _) | (with_reducible refine ext_alloc ?_ _) | (with_reducible refine ext_set ?_ (by first | omega | (simp <;> omega)) _) | (with_reducible refine ext_trans ?_ (by with_reducible assumption))))
            clear eW2
            refine wp_region_later fol (by kernel_rfl) (fun hlater => ?_)
            repeat (go_big_quiet_step ((first
                | (go_at_call 20; (with_reducible exact later_of (HHG.out _ (ext_trans hw2 (Later.ext _))))))))
            refine wpQuiet_nil ?_
            rintro W3 ⟨⟨w3x, hx3x⟩, rfl⟩
            clear hlater
            go_wp2_with fail
            go_ret
            exact ⟨rfl, ext_trans HX.out (ext_trans hw2 hx3x)⟩
          · have HHG := Lib.hid (fun (W : World) (hx : Ext wr W) => hasGone_any (HTG.out.ext gMk (ext_trans HXB.out hx)) (rmk_of' (HPM.out.ext gStp (ext_trans HXB.out hx)) HI3.out))
            rw [hg] at HHG
            clear hg
            obtain ⟨b, o, q', d', u', aq, cq, rfl, hb, ek, ick, hqq, y0, y1, y2⟩ := atm_at (HTA.out.ext gAt HXB.out) (show q < ta.length by omega)
            obtain ⟨rfl, rfl⟩ : p = q' ∧ c = d' := by rw [eq] at ek; injection ek with ek; injection ek with ek1 ek2; injection ek1 with ek3 ek4; exact ⟨ek3, ek4⟩
            have HSM := Lib.hid (fun (W : World) (hx : Ext wr W) => same_any (rmk_of' (hqq.ext gStp hx) ick) (rmk_of' (HPM.out.ext gStp (ext_trans HXB.out hx)) HI3.out))
            rw [ordM_self] at HSM
            have hbr : b < wr.heap.size := hb
            clear ek ick hqq eq
            go_wp2_with fail
            refine wp_name (fun W2 eW2 => ?_)
            have e0 : W2.cell? ⟨w.heap.size, 0, none⟩ = some (.slice a0 la.length c0) := by rw [eW2]; go_simp
            have e1 : W2.cell? ⟨w.heap.size, 1, none⟩ = some (.slice a1 lg.length c1) := by rw [eW2]; go_simp
            have e2 : W2.cell? ⟨w3.heap.size, 0, none⟩ = some (.slice a3 p.length c3) := by rw [eW2]; go_simp
            have e3 : W2.cell? ⟨w3.heap.size, 1, none⟩ = some (.int .i64 c) := by rw [eW2]; go_simp
            have e4 : W2.cell? ⟨w5.heap.size, 0, none⟩ = some (.slice (some ⟨b, o, none⟩) ta.length c4) := by rw [eW2]; go_simp
            have e5 : W2.cell? ⟨w5.heap.size, 1, none⟩ = some (.slice a5 n5 c5) := by rw [eW2]; go_simp
            have e6 : W2.cell? ⟨b, o + q * 3, none⟩ = some (.slice aq p.length cq) := by rw [eW2]; go_simp
            have e7 : W2.cell? ⟨b, o + q * 3 + 1, none⟩ = some (.int .i64 c) := by rw [eW2]; go_simp
            have e8 : W2.cell? ⟨b, o + q * 3 + 2, none⟩ = some (.int .u8 u'.toNat) := by rw [eW2]; go_simp
            have zW2_0 : w.heap.size < W2.heap.size := by rw [eW2]; first | assumption | omega | (simp <;> omega)
            have zW2_1 : w3.heap.size < W2.heap.size := by rw [eW2]; first | assumption | omega | (simp <;> omega)
            have zW2_2 : w5.heap.size < W2.heap.size := by rw [eW2]; first | assumption | omega | (simp <;> omega)
            have zW2_3 : b < W2.heap.size := by rw [eW2]; first | assumption | omega | (simp <;> omega)
            have hw2 : Ext wr W2 := by rw [eW2]; exact (by repeat (first | (with_reducible exact ext_refl _) | (with_reducible assumption) | (with_reducible refine ext_drew ?_) | (with_reducible refine ext_drewN ?_ _) | (with_reducible refine ext_alloc ?_ _) | (with_reducible refine ext_set ?_ (by first | omega | (simp <;> omega)) _) | (with_reducible refine ext_trans ?_ (by with_reducible assumption))))
            clear eW2
            refine wp_region_later fol (by kernel_rfl) (fun hlater => ?_)
            repeat (go_big_quiet_step ((first
                | (go_at_call 20; (with_reducible exact later_of (HHG.out _ (ext_trans hw2 (Later.ext _)))))
                | (go_at_call 26; (with_reducible exact later_of (HSM.out _ (ext_trans hw2 (Later.ext _))))))))
            refine wpQuiet_nil ?_
            rintro W3 ⟨⟨w3x, hx3x⟩, rfl⟩
            clear hlater
            go_wp2_with fail
            go_ret
            exact ⟨rfl, ext_trans HX.out (ext_trans hw2 hx3x)⟩
    · have hv := HER.out h0
      rw [hv] at HAL
      generalize allE (la, lg) l = r1 at *
      have g1 : (r1 != 0) = true := by simpa using h0
      clear hv HS HF HER HR HN HSF h0
      go_enter Try.func6, Try.ntmps6
      go_wp2_with (first | (go_at_call 23; go_must ((with_reducible refine (caretBegun_any _).mono ?_); rintro e w1 ⟨rfl, hx1⟩; have hs1 := hx1.size; (try simp at hs1); have l1_0 : w.heap.size < w1.heap.size := (by omega); have p0 := (hx1.cells (w.heap.size) 0 (by first | omega | (simp <;> omega))).trans (show _ = some (.slice a0 la.length c0) by first | assumption | go_simp); have p1 := (hx1.cells (w.heap.size) 1 (by first | omega | (simp <;> omega))).trans (show _ = some (.slice a1 lg.length c1) by first | assumption | go_simp); have HX1 := Lib.hid (show Ext w w1 from ext_trans (by repeat (first | (with_reducible exact ext_refl _) | (with_reducible assumption) | (with_reducible refine ext_drew ?_) | (with_reducible refine ext_drewN ?_ _) | (with_reducible refine ext_alloc ?_ _) | (with_reducible refine ext_set ?_ (by first | omega | (simp <;> omega)) _) | (with_reducible refine ext_trans ?_ (by with_reducible assumption)))) hx1))) | (go_at_call 13; go_must ((with_reducible refine (stateBegun_any _).mono ?_); rintro e w2 ⟨rfl, hx2⟩; have hs2 := hx2.size; (try simp at hs2); have l2_0 : w.heap.size < w2.heap.size := (by omega); have q0 := (hx2.cells (w.heap.size) 0 (by first | omega | (simp <;> omega))).trans (show _ = some (.slice a0 la.length c0) by first | assumption | go_simp); have q1 := (hx2.cells (w.heap.size) 1 (by first | omega | (simp <;> omega))).trans (show _ = some (.slice a1 lg.length c1) by first | assumption | go_simp); have HX2 := Lib.hid (show Ext w w2 from ext_trans (ext_trans HX1.out (by repeat (first | (with_reducible exact ext_refl _) | (with_reducible assumption) | (with_reducible refine ext_drew ?_) | (with_reducible refine ext_drewN ?_ _) | (with_reducible refine ext_alloc ?_ _) | (with_reducible refine ext_set ?_ (by first | omega | (simp <;> omega)) _) | (with_reducible refine ext_trans ?_ (by with_reducible assumption))))) hx2))) | (go_at_call 24; go_must ((with_reducible refine (HO.out _ (ext_trans HX2.out (by repeat (first | (with_reducible exact ext_refl _) | (with_reducible assumption) | (with_reducible refine ext_drew ?_) | (with_reducible refine ext_drewN ?_ _) | (with_reducible refine ext_alloc ?_ _) | (with_reducible refine ext_set ?_ (by first | omega | (simp <;> omega)) _) | (with_reducible refine ext_trans ?_ (by with_reducible assumption)))))).mono ?_); rintro e w3 ⟨cs3, rfl, hm3, hx3⟩; obtain ⟨v3, rfl, hv3, hi3⟩ := hm3; obtain ⟨a3, n3, c3, rfl⟩ := hv3.slice; obtain rfl : n3 = p.length := hv3.len.1; have HV3 := Lib.hid hv3; have HI3 := Lib.hid hi3; clear hv3 hi3; have hs3 := hx3.size; (try simp at hs3); have l3_0 : w.heap.size < w3.heap.size := (by omega); have r0 := (hx3.cells (w.heap.size) 0 (by first | omega | (simp <;> omega))).trans (show _ = some (.slice a0 la.length c0) by first | assumption | go_simp); have r1 := (hx3.cells (w.heap.size) 1 (by first | omega | (simp <;> omega))).trans (show _ = some (.slice a1 lg.length c1) by first | assumption | go_simp); have HX3 := Lib.hid (show Ext w w3 from ext_trans (ext_trans HX2.out (by repeat (first | (with_reducible exact ext_refl _) | (with_reducible assumption) | (with_reducible refine ext_drew ?_) | (with_reducible refine ext_drewN ?_ _) | (with_reducible refine ext_alloc ?_ _) | (with_reducible refine ext_set ?_ (by first | omega | (simp <;> omega)) _) | (with_reducible refine ext_trans ?_ (by with_reducible assumption))))) hx3))) | (go_at_call 25; ((with_reducible refine (at_is HB.out (HAT.out _ (ext_trans HX3.out (by repeat (first | (with_reducible exact ext_refl _) | (with_reducible assumption) | (with_reducible refine ext_drew ?_) | (with_reducible refine ext_drewN ?_ _) | (with_reducible refine ext_alloc ?_ _) | (with_reducible refine ext_set ?_ (by first | omega | (simp <;> omega)) _) | (with_reducible refine ext_trans ?_ (by with_reducible assumption))))) _ _ _ (rmk_of' (HV3.out.ext gStp (by repeat (first | (with_reducible exact ext_refl _) | (with_reducible assumption) | (with_reducible refine ext_drew ?_) | (with_reducible refine ext_drewN ?_ _) | (with_reducible refine ext_alloc ?_ _) | (with_reducible refine ext_set ?_ (by first | omega | (simp <;> omega)) _) | (with_reducible refine ext_trans ?_ (by with_reducible assumption))))) HI3.out))).mono ?_); rintro e w4 ⟨rfl, hx4⟩; clear HB; have hs4 := hx4.size; (try simp at hs4); have l4_0 : w.heap.size < w4.heap.size := (by omega); have l4_1 : w3.heap.size < w4.heap.size := (by omega); have s0 := (hx4.cells (w.heap.size) 0 (by first | omega | (simp <;> omega))).trans (show _ = some (.slice a0 la.length c0) by first | assumption | go_simp); have s1 := (hx4.cells (w.heap.size) 1 (by first | omega | (simp <;> omega))).trans (show _ = some (.slice a1 lg.length c1) by first | assumption | go_simp); have s2 := (hx4.cells (w3.heap.size) 0 (by first | omega | (simp <;> omega))).trans (show _ = some (.slice a3 p.length c3) by first | assumption | go_simp); have s3 := (hx4.cells (w3.heap.size) 1 (by first | omega | (simp <;> omega))).trans (show _ = some (.int .i64 c) by first | assumption | go_simp); have HX4 := Lib.hid (show Ext w w4 from ext_trans (ext_trans HX3.out (by repeat (first | (with_reducible exact ext_refl _) | (with_reducible assumption) | (with_reducible refine ext_drew ?_) | (with_reducible refine ext_drewN ?_ _) | (with_reducible refine ext_alloc ?_ _) | (with_reducible refine ext_set ?_ (by first | omega | (simp <;> omega)) _) | (with_reducible refine ext_trans ?_ (by with_reducible assumption))))) hx4); have HX43 := Lib.hid (show Ext w3 w4 from ext_trans (by repeat (first | (with_reducible exact ext_refl _) | (with_reducible assumption) | (with_reducible refine ext_drew ?_) | (with_reducible refine ext_drewN ?_ _) | (with_reducible refine ext_alloc ?_ _) | (with_reducible refine ext_set ?_ (by first | omega | (simp <;> omega)) _) | (with_reducible refine ext_trans ?_ (by with_reducible assumption)))) hx4))) | (go_at_call 11; go_must ((with_reducible refine (HAL.out _ (ext_trans HX4.out (by repeat (first | (with_reducible exact ext_refl _) | (with_reducible assumption) | (with_reducible refine ext_drew ?_) | (with_reducible refine ext_drewN ?_ _) | (with_reducible refine ext_alloc ?_ _) | (with_reducible refine ext_set ?_ (by first | omega | (simp <;> omega)) _) | (with_reducible refine ext_trans ?_ (by with_reducible assumption)))))).mono ?_); rintro e w5 ⟨v5, u5, rfl, ho5, hx5⟩; obtain ⟨a4, n4, c4, rfl⟩ := osl_slice ho5.1; obtain ⟨a5, n5, c5, rfl⟩ := osl_slice ho5.2.1; have HX5 := Lib.hid (show Ext w w5 from ext_trans (ext_trans HX4.out (by repeat (first | (with_reducible exact ext_refl _) | (with_reducible assumption) | (with_reducible refine ext_drew ?_) | (with_reducible refine ext_drewN ?_ _) | (with_reducible refine ext_alloc ?_ _) | (with_reducible refine ext_set ?_ (by first | omega | (simp <;> omega)) _) | (with_reducible refine ext_trans ?_ (by with_reducible assumption))))) hx5); clear ho5)))
      go_ret
      exact ⟨rfl, ext_trans HX5.out (by repeat (first | (with_reducible exact ext_refl _) | (with_reducible assumption) | (with_reducible refine ext_drew ?_) | (with_reducible refine ext_drewN ?_ _) | (with_reducible refine ext_alloc ?_ _) | (with_reducible refine ext_set ?_ (by first | omega | (simp <;> omega)) _) | (with_reducible refine ext_trans ?_ (by with_reducible assumption))))⟩
  · have t1 : (e1 != 0) = true := by simpa using h1
    have h3 := HN.out h1
    obtain ⟨rfl, rfl⟩ : p = [] ∧ c = 0 := by injection h3 with a b; exact ⟨a, b⟩
    clear HS HF HER HR HN h1 h3 HSF HAT HAL
    go_enter Try.func6, Try.ntmps6
    go_wp2_with (first | (go_at_call 23; go_must ((with_reducible refine (caretBegun_any _).mono ?_); rintro e w1 ⟨rfl, hx1⟩; have hs1 := hx1.size; (try simp at hs1); have l1_0 : w.heap.size < w1.heap.size := (by omega); have p0 := (hx1.cells (w.heap.size) 0 (by first | omega | (simp <;> omega))).trans (show _ = some (.slice a0 la.length c0) by first | assumption | go_simp); have p1 := (hx1.cells (w.heap.size) 1 (by first | omega | (simp <;> omega))).trans (show _ = some (.slice a1 lg.length c1) by first | assumption | go_simp); have HX1 := Lib.hid (show Ext w w1 from ext_trans (by repeat (first | (with_reducible exact ext_refl _) | (with_reducible assumption) | (with_reducible refine ext_drew ?_) | (with_reducible refine ext_drewN ?_ _) | (with_reducible refine ext_alloc ?_ _) | (with_reducible refine ext_set ?_ (by first | omega | (simp <;> omega)) _) | (with_reducible refine ext_trans ?_ (by with_reducible assumption)))) hx1))) | (go_at_call 13; go_must ((with_reducible refine (stateBegun_any _).mono ?_); rintro e w2 ⟨rfl, hx2⟩; have hs2 := hx2.size; (try simp at hs2); have l2_0 : w.heap.size < w2.heap.size := (by omega); have q0 := (hx2.cells (w.heap.size) 0 (by first | omega | (simp <;> omega))).trans (show _ = some (.slice a0 la.length c0) by first | assumption | go_simp); have q1 := (hx2.cells (w.heap.size) 1 (by first | omega | (simp <;> omega))).trans (show _ = some (.slice a1 lg.length c1) by first | assumption | go_simp); have HX2 := Lib.hid (show Ext w w2 from ext_trans (ext_trans HX1.out (by repeat (first | (with_reducible exact ext_refl _) | (with_reducible assumption) | (with_reducible refine ext_drew ?_) | (with_reducible refine ext_drewN ?_ _) | (with_reducible refine ext_alloc ?_ _) | (with_reducible refine ext_set ?_ (by first | omega | (simp <;> omega)) _) | (with_reducible refine ext_trans ?_ (by with_reducible assumption))))) hx2))) | (go_at_call 24; go_must ((with_reducible refine (HO.out _ (ext_trans HX2.out (by repeat (first | (with_reducible exact ext_refl _) | (with_reducible assumption) | (with_reducible refine ext_drew ?_) | (with_reducible refine ext_drewN ?_ _) | (with_reducible refine ext_alloc ?_ _) | (with_reducible refine ext_set ?_ (by first | omega | (simp <;> omega)) _) | (with_reducible refine ext_trans ?_ (by with_reducible assumption)))))).mono ?_); rintro e w3 ⟨cs3, rfl, hm3, hx3⟩; obtain ⟨v3, rfl, hv3, hi3⟩ := hm3; obtain ⟨a3, n3, c3, rfl⟩ := hv3.slice; obtain rfl : n3 = 0 := hv3.len.1; have HV3 := Lib.hid hv3; have HI3 := Lib.hid hi3; clear hv3 hi3; have hs3 := hx3.size; (try simp at hs3); have l3_0 : w.heap.size < w3.heap.size := (by omega); have r0 := (hx3.cells (w.heap.size) 0 (by first | omega | (simp <;> omega))).trans (show _ = some (.slice a0 la.length c0) by first | assumption | go_simp); have r1 := (hx3.cells (w.heap.size) 1 (by first | omega | (simp <;> omega))).trans (show _ = some (.slice a1 lg.length c1) by first | assumption | go_simp); have HX3 := Lib.hid (show Ext w w3 from ext_trans (ext_trans HX2.out (by repeat (first | (with_reducible exact ext_refl _) | (with_reducible assumption) | (with_reducible refine ext_drew ?_) | (with_reducible refine ext_drewN ?_ _) | (with_reducible refine ext_alloc ?_ _) | (with_reducible refine ext_set ?_ (by first | omega | (simp <;> omega)) _) | (with_reducible refine ext_trans ?_ (by with_reducible assumption))))) hx3))))
    go_ret
    exact ⟨rfl, ext_trans HX3.out (by repeat (first | (with_reducible exact ext_refl _) | (with_reducible assumption) | (with_reducible refine ext_drew ?_) | (with_reducible refine ext_drewN ?_ _) | (with_reducible refine ext_alloc ?_ _) | (with_reducible refine ext_set ?_ (by first | omega | (simp <;> omega)) _) | (with_reducible refine ext_trans ?_ (by with_reducible assumption))))⟩
end Go.Proofs.Ytfgfdohppgoajaa
