/- MarkTells: Check, Order and Next answer what the document says: the walk. -/
import Derived.Test.YthkhkbjkbpgaoaaM1
set_option linter.unusedVariables false
set_option linter.unusedSimpArgs false
namespace Go.Proofs.Ythkhkbjkbpgaoaa
open Go Go.RowKit Go.BigFrame Cp

set_option maxRecDepth 100000 in
set_option maxHeartbeats 4000000 in
theorem markTells_any {F G : Nat → Prop} {w : World} {cs ds : List Value} {a b : Mk} {k : Int} (ha : RMk F w cs a) (hb : RMk G w ds b) :
    Calls Try.prog 7 #[.agg cs.toArray, .agg ds.toArray, .int .i64 k] w fun e w' => e = .returned (.bool true) ∧ Ext w w' := by
  have HA := Lib.hid (fun (W : World) (hx : Ext w W) => gMk.ext ha hx)
  have HB := Lib.hid (fun (W : World) (hx : Ext w W) => gMk.ext hb hx)
  obtain ⟨va, rfl, hl, _⟩ := ha
  obtain ⟨vb, rfl, hmm, _⟩ := hb
  obtain ⟨l, c⟩ := a
  obtain ⟨m, d⟩ := b
  simp only at hl hmm HA HB ⊢
  obtain ⟨a1, n1, c1, rfl⟩ := hl.slice
  obtain ⟨a2, n2, c2, rfl⟩ := hmm.slice
  obtain ⟨rfl, _, _⟩ := hl.len
  obtain ⟨rfl, _, _⟩ := hmm.len
  have HN := Lib.hid (fun (W : World) (hx : Ext w W) => next_any (k := k) (HA.out W hx))
  have HO := Lib.hid (fun (W : World) (hx : Ext w W) => nextOf_any (k := k) (HA.out W hx))
  generalize nextM (l, c) k = nx at HN HO
  obtain ⟨⟨p, q⟩, er⟩ := nx
  simp only at HN HO
  have HC := Lib.hid (fun (W : World) (hx : Ext w W) => check_any (HA.out W hx))
  have HD := Lib.hid (fun (W : World) (hx : Ext w W) => checkMark_any (HA.out W hx))
  have HOR := Lib.hid (fun (W : World) (hx : Ext w W) => order_any (HA.out W hx) (HB.out W hx))
  have HOF := Lib.hid (fun (W : World) (hx : Ext w W) => orderOf_any (HA.out W hx) (HB.out W hx))
  generalize checkM (l, c) = ck at HC HD
  generalize ordM (l, c) (m, d) = od at HOR HOF
  have tz : (ordM (p, q) (p, q) == 0) = true := by rw [ordM_self]; rfl
  clear hl hmm
  go_enter Try.func7, Try.ntmps7
  go_wp2_with (first
    | (go_at_call 30; go_must ((with_reducible refine (HN.out _ (by repeat (first | (with_reducible exact ext_refl _) | (with_reducible assumption) | (with_reducible refine ext_drew ?_) | (with_reducible refine ext_drewN ?_ _) | (with_reducible refine ext_alloc ?_ _) | (with_reducible refine ext_set ?_ (by first | omega | (simp <;> omega)) _) | (with_reducible refine ext_trans ?_ (by with_reducible assumption))))).mono ?_); rintro e w1 ⟨cs1, rfl, hm1, hx1⟩; obtain ⟨v1, rfl, hv1, hi1⟩ := hm1; obtain ⟨a3, n3, c3, rfl⟩ := hv1.slice; obtain rfl : n3 = p.length := hv1.len.1; have HV1 := Lib.hid hv1; have HI1 := Lib.hid hi1; clear hv1 hi1; have hc1 := hx1.cells; have hz1 := hx1.size; (try simp at hz1); have hb1_0 : w.heap.size < w1.heap.size := (by omega); have hb1_1 : w.heap.size + 1 < w1.heap.size := (by omega)))
    | (go_at_call 31; go_must ((with_reducible refine (HO.out _ (by repeat (first | (with_reducible exact ext_refl _) | (with_reducible assumption) | (with_reducible refine ext_drew ?_) | (with_reducible refine ext_drewN ?_ _) | (with_reducible refine ext_alloc ?_ _) | (with_reducible refine ext_set ?_ (by first | omega | (simp <;> omega)) _) | (with_reducible refine ext_trans ?_ (by with_reducible assumption))))).mono ?_); rintro e w2 ⟨cs2, rfl, hm2, hx2⟩; obtain ⟨v2, rfl, hv2, hi2⟩ := hm2; obtain ⟨a4, n4, c4, rfl⟩ := hv2.slice; obtain rfl : n4 = p.length := hv2.len.1; have HV2 := Lib.hid hv2; clear hv2 hi2; have hc2 := hx2.cells; have hz2 := hx2.size; (try simp at hz2); have hb2_0 : w.heap.size < w2.heap.size := (by omega); have hb2_1 : w.heap.size + 1 < w2.heap.size := (by omega); have hb2_2 : w1.heap.size < w2.heap.size := (by omega))))
  have hw1 : Ext w1 w2 := (by repeat (first | (with_reducible exact ext_refl _) | (with_reducible assumption) | (with_reducible refine ext_drew ?_) | (with_reducible refine ext_drewN ?_ _) | (with_reducible refine ext_alloc ?_ _) | (with_reducible refine ext_set ?_ (by first | omega | (simp <;> omega)) _) | (with_reducible refine ext_trans ?_ (by with_reducible assumption))))
  have hw2 : Ext w w2 := (by repeat (first | (with_reducible exact ext_refl _) | (with_reducible assumption) | (with_reducible refine ext_drew ?_) | (with_reducible refine ext_drewN ?_ _) | (with_reducible refine ext_alloc ?_ _) | (with_reducible refine ext_set ?_ (by first | omega | (simp <;> omega)) _) | (with_reducible refine ext_trans ?_ (by with_reducible assumption))))
  refine wp_name (fun w3 ew3 => ?_)
  have y0 : w3.cell? ⟨w.heap.size, 0, none⟩ = some (.slice a1 l.length c1) := by rw [ew3]; go_simp
  have y1 : w3.cell? ⟨w.heap.size, 1, none⟩ = some (.int .i64 c) := by rw [ew3]; go_simp
  have y2 : w3.cell? ⟨w.heap.size + 1, 0, none⟩ = some (.slice a2 m.length c2) := by rw [ew3]; go_simp
  have y3 : w3.cell? ⟨w.heap.size + 1, 1, none⟩ = some (.int .i64 d) := by rw [ew3]; go_simp
  have y4 : w3.cell? ⟨w1.heap.size, 0, none⟩ = some (.slice a3 p.length c3) := by rw [ew3]; go_simp
  have y5 : w3.cell? ⟨w1.heap.size, 1, none⟩ = some (.int .i64 q) := by rw [ew3]; go_simp
  have y6 : w3.cell? ⟨w2.heap.size, 0, none⟩ = some (.slice a4 p.length c4) := by rw [ew3]; go_simp
  have y7 : w3.cell? ⟨w2.heap.size, 1, none⟩ = some (.int .i64 q) := by rw [ew3]; go_simp
  have zw3_0 : w.heap.size < w3.heap.size := by rw [ew3]; simp <;> omega
  have zw3_1 : w.heap.size + 1 < w3.heap.size := by rw [ew3]; simp <;> omega
  have zw3_2 : w1.heap.size < w3.heap.size := by rw [ew3]; simp <;> omega
  have zw3_3 : w2.heap.size < w3.heap.size := by rw [ew3]; simp <;> omega
  have hw3 : Ext w2 w3 := by rw [ew3]; exact (by repeat (first | (with_reducible exact ext_refl _) | (with_reducible assumption) | (with_reducible refine ext_drew ?_) | (with_reducible refine ext_drewN ?_ _) | (with_reducible refine ext_alloc ?_ _) | (with_reducible refine ext_set ?_ (by first | omega | (simp <;> omega)) _) | (with_reducible refine ext_trans ?_ (by with_reducible assumption))))
  clear ew3
  have HSM := Lib.hid (fun (W : World) (hx : Ext w3 W) => same_any (w := W) (cs := [.slice a3 p.length c3, .int .i64 q]) (ds := [.slice a4 p.length c4, .int .i64 q]) (a := (p, q)) (b := (p, q)) (rmk_of (HV1.out.ext gStp (ext_trans hw1 (ext_trans hw3 hx))) HI1.out) (rmk_of (HV2.out.ext gStp (ext_trans hw3 hx)) HI1.out))
  have hb3 : Ext w w3 := ext_trans hw2 hw3
  refine wp_region_later fol (by kernel_rfl) (fun hlater => ?_)
  repeat (go_big_quiet_step ((first
      | (go_at_call 32; (with_reducible exact later_of (markBegun_any _)))
      | (go_at_call 33; (with_reducible exact later_of (HC.out _ (ext_trans hb3 (Later.ext _)))))
      | (go_at_call 26; (with_reducible exact later_of (HD.out _ (ext_trans hb3 (Later.ext _)))))
      | (go_at_call 34; (with_reducible exact later_of (HOR.out _ (ext_trans hb3 (Later.ext _)))))
      | (go_at_call 35; (with_reducible exact later_of (HOF.out _ (ext_trans hb3 (Later.ext _)))))
      | (go_at_call 29; (with_reducible exact later_of (HSM.out _ (Later.ext _)))))))
  refine wpQuiet_nil ?_
  rintro _ ⟨⟨w4, hx4⟩, rfl⟩
  clear hlater
  go_wp2_with fail
  go_ret
  exact ⟨rfl, ext_trans hb3 hx4⟩
end Go.Proofs.Ythkhkbjkbpgaoaa
