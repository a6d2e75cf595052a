/- A note's bytes, by the program. -/
import Derived.Test.YtiladkinndgeaaaQc484445089
import Derived.Test.YtiladkinndgeaaaQ88da264e40
import Derived.Laws.IdiomStrings
import Derived.Deep.DeepCutAuto
import Derived.Deep.RegionHeld3
set_option linter.unusedVariables false
set_option linter.unusedSimpArgs false
namespace Go.Proofs.Ytiladkinndgeaaa
open Go Go.RowKit Go.BigFrame Cp

def encV (n : No) : Tx := if checkN n = 0 then noteB n else []
theorem wr_new {W : World} {t : TypeId} : WrAt (fun j => j < W.heap.size) W.heap.size [] (W.alloc (.cells #[.slice none 0 0] t)) :=
  ⟨.slice none 0 0, by go_simp, by go_simp, osl_nil, fun j hj => by simp [Value.ownBlock] at hj, by simp⟩
theorem deedB_len {d : De} (h : checkD d = 0) : (deedB d).length ≤ 100 := by
  unfold deedB
  by_cases hk : d.kind = 1
  · obtain ⟨hr, _, _⟩ := deed_put h hk
    obtain ⟨hm, _, hl, _, _⟩ := checkR_parts hr
    obtain ⟨h1, _⟩ := stp_ok hm
    rw [if_neg (by omega), List.length_cons, List.length_append, markB_len, List.length_cons]
    omega
  · obtain ⟨h2, hm, _⟩ := deed_take h hk
    obtain ⟨h1, _⟩ := stp_ok hm
    rw [if_pos h2, List.length_cons, List.length_append, markB_len]
    simp only [List.length_cons, List.length_nil]
    omega
theorem deeds_len {l : List De} (h : ∀ d ∈ l, checkD d = 0) : (l.flatMap deedB).length ≤ l.length * 100 := by
  induction l with
  | nil => simp
  | cons d l ih =>
    rw [List.flatMap_cons, List.length_append, List.length_cons]
    have h1 := deedB_len (h d (List.mem_cons_self ..))
    have h2 := ih (fun x hx => h x (List.mem_cons_of_mem _ hx))
    omega
theorem two_len {l : List Int} : (l.flatMap twoB).length = l.length * 2 := by
  induction l with
  | nil => rfl
  | cons a l ih => rw [List.flatMap_cons, List.length_append, ih, List.length_cons]; show 2 + _ = _; omega
theorem by_cell {F : Nat → Prop} {w : World} {v : Value} {e : TypeId} {l : Tx} (h : OSl RBy 1 e 0 F w v l) (hn : l ≠ []) : ∃ g c, v = .slice (some ⟨g, 0, none⟩) l.length c ∧ ∀ j (hj : j < l.length), w.cell? (Addr.add ⟨g, 0, none⟩ j) = some (.int .u8 (l[j].toNat : Int)) := by
  obtain ⟨a, n, c, rfl⟩ := osl_slice h
  have hp := List.length_pos_iff.2 hn
  obtain ⟨g, _, _, rfl, rfl, _⟩ := osl_at h hp
  refine ⟨g, c, rfl, fun j hj => ?_⟩
  obtain ⟨g', x, cs, _, e2, _, _, e3, _, e4, rfl, _⟩ := osl_at h hj
  injection e2 with e2
  injection e2 with e2
  subst e2
  have := e4 0 _ rfl
  rw [List.getElem?_eq_getElem hj] at e3
  injection e3 with e3
  rw [e3]
  cases j with
  | zero => simpa [Addr.add] using this
  | succ j => simpa [Addr.add] using this
set_option maxRecDepth 100000 in
theorem by_str {F : Nat → Prop} {w : World} {a : Option Addr} {n c : Nat} {l : Tx} (h : OSl RBy 1 5 0 F w (.slice a n c) l) (hn : l ≠ []) : (convert 49 9 (.slice a n c)).run Try.prog w = .ok (.string ⟨l.toArray⟩) w := by
  obtain ⟨g, c', e, hc⟩ := by_cell h hn
  injection e with e1 e2 e3
  subst e1 e2 e3
  exact run_convert_bytes_back w 49 9 5 ⟨g, 0, none⟩ c l Try.underlying49 Try.underlying5 Try.underlying9 hc
set_option maxRecDepth 100000 in
set_option maxHeartbeats 4000000 in
theorem encode_any {F : Nat → Prop} {w : World} {cs : List Value} {n : No} (h : RNo F w cs n) :
    Calls Try.prog 7 #[.agg cs.toArray] w fun e w' => e = .returned (.tuple #[.string ⟨(encV n).toArray⟩, .int .i64 (checkN n)]) ∧ Ext w w' := by
  have HCN := Lib.hid (fun (W : World) (hx : Ext w W) => checkNoteP_any (gNo.ext h hx))
  obtain ⟨v, x, rfl, hi1, hi2, h1, h2⟩ := h
  have HL1 := Lib.hid (fun (W : World) (hx : Ext w W) => h1.ext gInt hx)
  have HL2 := Lib.hid (fun (W : World) (hx : Ext w W) => h2.ext gDe hx)
  obtain ⟨a1, n1, c1, rfl⟩ := h1.slice
  obtain ⟨a2, n2, c2, rfl⟩ := h2.slice
  obtain rfl : n1 = n.needs.length := h1.len.1
  obtain rfl : n2 = n.deeds.length := h2.len.1
  clear h1 h2 hi1 hi2
  by_cases hc : checkN n = 0
  · have HS := Lib.hid (show encV n = noteB n by unfold encV; rw [if_pos hc])
    obtain ⟨k1, k2, k3, k4, _, k6, k7, k8⟩ := checkN_okP hc
    have HNE := Lib.hid (needs_ok k4)
    have HDE := Lib.hid (checkDL_ok.1 k8)
    unfold inB at k1 k2
    simp at k1 k2
    have HSI := Lib.hid (show I64 n.site from i64_small (by omega) (by omega))
    have HNU := Lib.hid k2
    have HN5 := Lib.hid k3
    have HD20 := Lib.hid k7
    rw [hc] at HCN ⊢
    have hn1000 : n.needs.length ≤ 1000 := by omega
    have hd1000 : n.deeds.length ≤ 1000 := by omega
    clear hc k1 k2 k3 k4 k6 k7 k8
    go_enter Try.func7, Try.ntmps7
    go_upto_if 13 with (first | (go_at_call 13; go_must ((with_reducible refine (HCN.out _ extA).mono ?_); rintro e w3 ⟨rfl, hx3⟩; have hz3 := hx3.size; (try simp at hz3); have hn3 : w.heap.size < w3.heap.size := (by omega); have b0 := (hx3.cells (w.heap.size) 0 (by first | omega | (simp <;> omega))).trans (show _ = some (.int .i64 n.site) by first | (with_reducible assumption) | go_simp); have b1 := (hx3.cells (w.heap.size) 1 (by first | omega | (simp <;> omega))).trans (show _ = some (.int .i64 n.number) by first | (with_reducible assumption) | go_simp); have b2 := (hx3.cells (w.heap.size) 2 (by first | omega | (simp <;> omega))).trans (show _ = some (.slice a1 n.needs.length c1) by first | (with_reducible assumption) | go_simp); have b3 := (hx3.cells (w.heap.size) 3 (by first | omega | (simp <;> omega))).trans (show _ = some (.slice a2 n.deeds.length c2) by first | (with_reducible assumption) | go_simp); have HX3 := Lib.hid (show Ext w w3 from ext_trans extA hx3))))
    refine wp_name (fun W1 eW1 => ?_)
    have HX1 := Lib.hid (show Ext w W1 by rw [eW1]; exact ext_trans HX3.out extA)
    have x0 : W1.cell? ⟨w.heap.size, 0, none⟩ = some (.int .i64 n.site) := by rw [eW1]; go_simp
    have x1 : W1.cell? ⟨w.heap.size, 1, none⟩ = some (.int .i64 n.number) := by rw [eW1]; go_simp
    have x2 : W1.cell? ⟨w.heap.size, 2, none⟩ = some (.slice a1 n.needs.length c1) := by rw [eW1]; go_simp
    have x3 : W1.cell? ⟨w.heap.size, 3, none⟩ = some (.slice a2 n.deeds.length c2) := by rw [eW1]; go_simp
    have z1 : w.heap.size < W1.heap.size := World.block_lt_of_cell? _ _ x0
    have HLD := Lib.hid (fun (W : World) (hx : Ext W1 W) => (show RSl RDe 7 (fun j => j < W1.heap.size) W _ _ from ((HL2.out W1 HX1.out).more gDe (fun _ _ h => h)).ext gDe hx))
    clear eW1 HX3 hx3 b0 b1 b2 b3 HCN
    go_wp2_with (first | (go_at_call 22; go_must ((with_reducible refine (put_new (xs := [n.site]) (w0 := W1.alloc (.cells #[.slice none 0 0] 51)) wr_new extA (fun j hj => by have hj' : j < W1.heap.size := hj; simp; omega) (rd_int1 (by first | (with_reducible assumption) | go_simp) HSI.out (by simp) (by first | omega | (simp <;> omega))) (Nat.le_trans (Nat.zero_le _) (Nat.le_refl _)) (Nat.le_trans (Nat.le_refl 1) (by decide))).mono ?_); rintro e w4 ⟨rfl, HA4, HK4'⟩; have HK4 := Lib.hid (show Kept (fun j => j < W1.heap.size) W1 w4 from kept_trans (kept_ext extA) HK4'); have p0 := (HK4.out.cell (show w.heap.size < W1.heap.size from z1) z1 0).trans x0; have p1 := (HK4.out.cell (show w.heap.size < W1.heap.size from z1) z1 1).trans x1; have p2 := (HK4.out.cell (show w.heap.size < W1.heap.size from z1) z1 2).trans x2; have p3 := (HK4.out.cell (show w.heap.size < W1.heap.size from z1) z1 3).trans x3; clear HK4')) | (go_at_call 23; go_must ((with_reducible refine (two_any (wrAt_ext HA4 extA) (fun j hj => Nat.lt_of_lt_of_le (show j < W1.heap.size from hj) (Nat.le_trans HK4.out.size (show Ext w4 _ from extA).size)) (by have := HNU.out; omega) (by have := HNU.out; omega) (show _ ≤ 900000 by simp)).mono ?_); rintro e w5 ⟨rfl, HA5, HK5'⟩; have HK5 := kept_trans HK4.out (kept_trans (kept_ext extA) HK5'); clear HK5' HK4; have q0 := (HK5.cell (show w.heap.size < W1.heap.size from z1) z1 0).trans x0; have q1 := (HK5.cell (show w.heap.size < W1.heap.size from z1) z1 1).trans x1; have q2 := (HK5.cell (show w.heap.size < W1.heap.size from z1) z1 2).trans x2; have q3 := (HK5.cell (show w.heap.size < W1.heap.size from z1) z1 3).trans x3)))
    refine wp_name (fun W2 eW2 => ?_)
    have HA2 := Lib.hid (show WrAt (fun j => j < W1.heap.size) W1.heap.size ([b8 n.site] ++ twoB n.number) W2 by rw [eW2]; exact wrAt_ext HA5 extA)
    have HK2 := Lib.hid (show Kept (fun j => j < W1.heap.size) W1 W2 by rw [eW2]; exact kept_trans HK5 (kept_ext extA))
    clear eW2 HA5 HK5
    go_loopw [29] (fun iv wr => ∃ k : Nat, k ≤ n.needs.length ∧ iv = .int .i64 k ∧ Hid (WrAt (fun j => j < W1.heap.size) W1.heap.size ([b8 n.site] ++ twoB n.number ++ (n.needs.take k).flatMap twoB) wr) ∧ Hid (Kept (fun j => j < W1.heap.size) W1 wr)) (fun iv _ => n.needs.length - (intOf iv).toNat)
    case atStart => exact ⟨0, Nat.zero_le _, rfl, Lib.hid (by simpa using HA2.out), HK2⟩
    case round =>
      obtain ⟨k, hk, rfl, HA, HK⟩ := hrel
      have HXR := Lib.hid (show Ext W1 wr from HK.out.toExt (ext_refl _) (fun _ h => h))
      have y0 := (HXR.out.cells (w.heap.size) 0 z1).trans x0
      have y1 := (HXR.out.cells (w.heap.size) 1 z1).trans x1
      have y2 := (HXR.out.cells (w.heap.size) 2 z1).trans x2
      have y3 := (HXR.out.cells (w.heap.size) 3 z1).trans x3
      have zr : w.heap.size < wr.heap.size := World.block_lt_of_cell? _ _ y0
      clear x0 x1 x2 x3
      have HK5 := Lib.hid (show k ≤ 5 by have := HN5.out; omega)
      by_cases hlt : k < n.needs.length
      · obtain ⟨g, o, x, rfl, hg, ek, ix, s0⟩ := int_at (HL1.out wr (ext_trans HX1.out HXR.out)) hlt
        have HE := Lib.hid (flat_snoc (f := twoB) ek)
        have hxk := HNE.out x (List.mem_of_getElem? ek)
        have HTW := Lib.hid (fun (W : World) (hx : Ext wr W) => two_any (wrAt_ext HA.out hx) (fun j hj => Nat.lt_of_lt_of_le (show j < W1.heap.size from hj) (Nat.le_trans HXR.out.size hx.size)) hxk.1 (by omega) (show _ ≤ 900000 by rw [List.length_append, List.length_append, two_len, List.length_take]; have := HK5.out; simp only [List.length_cons, List.length_nil, twoB]; omega))
        clear ek ix hxk
        go_wp2_with (first | (go_at_call 23; go_must ((with_reducible refine (HTW.out _ extA).mono ?_); rintro e w6 ⟨rfl, HA6, HK6⟩; skip)))
        go_roundw
        case rel => exact ⟨k + 1, by omega, by go_num, Lib.hid (by rw [HE.out, ← List.append_assoc]; exact HA6), Lib.hid (kept_trans HK.out (kept_trans (kept_ext extA) HK6))⟩
        case measure => simp [intOf]; omega
      · obtain rfl : k = n.needs.length := by omega
        have HA7 := Lib.hid (show WrAt (fun j => j < W1.heap.size) W1.heap.size ([b8 n.site] ++ twoB n.number ++ n.needs.flatMap twoB) wr by have := HA.out; rwa [List.take_of_length_le (Nat.le_refl _)] at this)
        have HDL := Lib.hid (show I64 (n.deeds.length : Int) from i64_small (by omega) (by have := HD20.out; omega))
        have HPP := Lib.hid (fun (W : World) (v : Value) (hx : Ext wr W) (hv : RSl RInt 1 (fun j => wr.heap.size ≤ j) W v [(n.deeds.length : Int)]) => put_new HA7.out hx (fun j hj => Nat.lt_of_lt_of_le (show j < W1.heap.size from hj) HXR.out.size) hv (show _ ≤ 900000 by rw [List.length_append, List.length_append, two_len, HN5.out]; simp only [List.length_cons, List.length_nil, twoB]; omega) (show 1 ≤ 1000 by omega))
        clear HA
        go_wp2_with (first | (go_at_call 22; go_must ((with_reducible refine (HPP.out _ _ extA (rd_int1 (by first | (with_reducible assumption) | go_simp) HDL.out (by first | omega | (simp <;> omega)) (by first | omega | (simp <;> omega)))).mono ?_); rintro e w8 ⟨rfl, HA8, HK8⟩; have HKW := Lib.hid (kept_trans HK.out HK8); have p0 := (HKW.out.cell (show w.heap.size < W1.heap.size from z1) z1 0).trans ((HXR.out.cells (w.heap.size) 0 z1).symm.trans y0); have p1 := (HKW.out.cell (show w.heap.size < W1.heap.size from z1) z1 1).trans ((HXR.out.cells (w.heap.size) 1 z1).symm.trans y1); have p2 := (HKW.out.cell (show w.heap.size < W1.heap.size from z1) z1 2).trans ((HXR.out.cells (w.heap.size) 2 z1).symm.trans y2); have p3 := (HKW.out.cell (show w.heap.size < W1.heap.size from z1) z1 3).trans ((HXR.out.cells (w.heap.size) 3 z1).symm.trans y3))))
        refine wp_name (fun W4 eW4 => ?_)
        have HA4 := Lib.hid (show WrAt (fun j => j < W1.heap.size) W1.heap.size ([b8 n.site] ++ twoB n.number ++ n.needs.flatMap twoB ++ [b8 n.deeds.length]) W4 by rw [eW4]; exact wrAt_ext HA8 extA)
        have HK4 := Lib.hid (show Kept (fun j => j < W1.heap.size) W1 W4 by rw [eW4]; exact kept_trans HK.out (kept_trans HK8 (kept_ext extA)))
        clear eW4 HA8 HK8 HA7 HPP
        go_loopw [46] (fun iv wr => ∃ k : Nat, k ≤ n.deeds.length ∧ iv = .int .i64 k ∧ Hid (WrAt (fun j => j < W1.heap.size) W1.heap.size ([b8 n.site] ++ twoB n.number ++ n.needs.flatMap twoB ++ [b8 n.deeds.length] ++ (n.deeds.take k).flatMap deedB) wr) ∧ Hid (Kept (fun j => j < W1.heap.size) W1 wr)) (fun iv _ => n.deeds.length - (intOf iv).toNat)
        case atStart => exact ⟨0, Nat.zero_le _, rfl, Lib.hid (by simpa using HA4.out), HK4⟩
        case round =>
          obtain ⟨k, hk, rfl, HA, HK⟩ := hrel
          have HXQ := Lib.hid (show Ext W1 wr from HK.out.toExt (ext_refl _) (fun _ h => h))
          have HK20 := Lib.hid (show k ≤ 20 by have := HD20.out; omega)
          by_cases hlt : k < n.deeds.length
          · obtain ⟨g, o, d, b1', m1', k1', b2', m2', k2', sx, rfl, hg, ek, hde, s0, s1, s2, s3, s4, s5, s6⟩ := deed_at (HLD.out wr HXQ.out) hlt
            have HE := Lib.hid (flat_snoc (f := deedB) ek)
            have hxk := HDE.out d (List.mem_of_getElem? ek)
            have HDD := Lib.hid hde
            have HDL' := Lib.hid (show ((n.deeds.take k).flatMap deedB).length ≤ 2000 by have := deeds_len (l := n.deeds.take k) (fun d hd => HDE.out d (List.mem_of_mem_take hd)); rw [List.length_take] at this; have := HK20.out; omega)
            have HDW := Lib.hid (fun (W : World) (hx : Ext wr W) => deedW_any (wrAt_ext HA.out hx) (fun j hj => Nat.lt_of_lt_of_le (show j < W1.heap.size from hj) (Nat.le_trans HXQ.out.size hx.size)) (gDe.ext HDD.out hx) (fun j hj => hj) hxk (show _ ≤ 700000 by rw [List.length_append, List.length_append, List.length_append, two_len, HN5.out]; have := HDL'.out; simp only [List.length_append, List.length_cons, List.length_nil, twoB]; omega))
            have hgq : ¬ g = wr.heap.size := by omega
            clear ek hxk hde
            go_wp2_with (first | (go_at_call 24; go_must ((with_reducible refine (HDW.out _ extA).mono ?_); rintro e w9 ⟨rfl, HA9, HK9⟩; skip)))
            go_roundw
            case rel => exact ⟨k + 1, by omega, by go_num, Lib.hid (by rw [HE.out, ← List.append_assoc]; exact HA9), Lib.hid (kept_trans HK.out (kept_trans (kept_ext extA) HK9))⟩
            case measure => simp [intOf]; omega
          · obtain rfl : k = n.deeds.length := by omega
            have HA9 := HA.out
            rw [List.take_of_length_le (Nat.le_refl _)] at HA9
            rw [show [b8 n.site] ++ twoB n.number ++ n.needs.flatMap twoB ++ [b8 n.deeds.length] ++ n.deeds.flatMap deedB = noteB n by unfold noteB; simp] at HA9
            obtain ⟨u9, hu9⟩ := HA9
            obtain ⟨a9, n9, c9, rfl⟩ := osl_slice hu9.2.2.1
            have hc9 := hu9.1
            have hcv := by_str hu9.2.2.1 (by unfold noteB; simp)
            clear hu9 HA
            go_wp2_with fail
            go_ret2
            refine ⟨?_, ext_trans HX1.out HXQ.out⟩
            rw [HS.out]
            rfl
  · have HS := Lib.hid (show encV n = [] by unfold encV; rw [if_neg hc])
    have t1 : (checkN n != 0) = true := by simpa using hc
    clear hc
    generalize checkN n = er at *
    go_enter Try.func7, Try.ntmps7
    go_wp2_with (first | (go_at_call 13; go_must ((with_reducible refine (HCN.out _ extA).mono ?_); rintro e w3 ⟨rfl, hx3⟩; have hz3 := hx3.size; (try simp at hz3); have hn3 : w.heap.size < w3.heap.size := (by omega); have b0 := (hx3.cells (w.heap.size) 0 (by first | omega | (simp <;> omega))).trans (show _ = some (.int .i64 n.site) by first | (with_reducible assumption) | go_simp); have b1 := (hx3.cells (w.heap.size) 1 (by first | omega | (simp <;> omega))).trans (show _ = some (.int .i64 n.number) by first | (with_reducible assumption) | go_simp); have b2 := (hx3.cells (w.heap.size) 2 (by first | omega | (simp <;> omega))).trans (show _ = some (.slice a1 n.needs.length c1) by first | (with_reducible assumption) | go_simp); have b3 := (hx3.cells (w.heap.size) 3 (by first | omega | (simp <;> omega))).trans (show _ = some (.slice a2 n.deeds.length c2) by first | (with_reducible assumption) | go_simp); have HX3 := Lib.hid (show Ext w w3 from ext_trans extA hx3))))
    go_ret2
    refine ⟨?_, HX3.out⟩
    rw [HS.out]
    rfl
end Go.Proofs.Ytiladkinndgeaaa
/- Bytes by the document: numbers. -/
namespace Go.Proofs.Ytiladkinndgeaaa
open Go Go.RowKit Go.BigFrame Cp

theorem own_new {v v' : Value} {B N : Nat} (h : ∀ j, v.ownBlock = some j → B ≤ j) (hat : v'.ownBlock = v.ownBlock ∨ v'.ownBlock = some N) (hN : B ≤ N) : ∀ j, v'.ownBlock = some j → B ≤ j := fun j hj => by
  rcases hat with e | e
  · exact h j (e.symm.trans hj)
  · rw [e] at hj; injection hj with hj; omega
set_option maxRecDepth 100000 in
set_option maxHeartbeats 4000000 in
theorem bytesOf_any {F : Nat → Prop} {w : World} {v : Value} {xs : List Int} (hv : RSl RInt 1 F w v xs) (hx : xs.length ≤ 1000) (hn : xs ≠ []) :
    Calls Try.prog 32 #[v] w fun e w' => e = .returned (.string ⟨(xs.map b8).toArray⟩) ∧ Ext w w' := by
  have HV := Lib.hid (fun (W : World) (hx : Ext w W) => hv.ext gInt hx)
  obtain ⟨a0, n0, c0, rfl⟩ := hv.slice
  obtain rfl : n0 = xs.length := hv.len.1
  have HNE := Lib.hid hn
  obtain ⟨i0, hi0, hz0, hz1', hz2⟩ := info_parts info_u8
  have HJ := Lib.hid hi0
  have HZ0 := Lib.hid hz0
  have HZ1 := Lib.hid hz1'
  have HZ2 := Lib.hid hz2
  clear hi0 hz0 hz1' hz2 hv hn
  go_enter Try.func32, Try.ntmps32
  go_wp2_with fail
  go_loopw [3, 4] (fun sv iv wr => ∃ k : Nat, k ≤ xs.length ∧ iv = .int .i64 k ∧ Hid (OSl RBy 1 5 0 (fun _ => True) wr sv ((xs.take k).map b8)) ∧ Hid (∀ j, sv.ownBlock = some j → w.heap.size ≤ j) ∧ Hid (Ext w wr)) (fun _ iv _ => xs.length - (intOf iv).toNat)
  case atStart => exact ⟨0, Nat.zero_le _, rfl, Lib.hid osl_nil, Lib.hid (fun j hj => by simp [Value.ownBlock] at hj), Lib.hid extA⟩
  case round =>
    obtain ⟨k, hk, rfl, HO, HB, HX⟩ := hrel
    obtain ⟨a3, n3, c3, rfl⟩ := osl_slice HO.out
    obtain rfl := (osl_len HO.out).1
    by_cases hlt : k < xs.length
    · obtain ⟨g, o, x, rfl, hg, ek, hi, y0⟩ := int_at (HV.out wr HX.out) hlt
      have HE := Lib.hid (take_snocG ek)
      have HFL := Lib.hid (show ((xs.take k).map b8).length ≤ 1000000 by rw [List.length_map, List.length_take]; omega)
      have HS := Lib.hid (show (xs.take k).map b8 ++ [b8 x] = (xs.take (k + 1)).map b8 by rw [HE.out]; simp)
      have hcv := b8_conv x
      clear ek
      generalize (xs.take k).map b8 = fl at *
      go_wp2_with (first | (at_builtin; go_must (refine wpList_appAll gBy rfl (.tmp 11) (.tmp 17) 49 rfl 0 5 i0 _ 1 1 Try.underlying49 HJ.out HZ0.out HZ1.out HZ2.out rfl (by omega) (F := fun _ => True) (G := fun j => j = wr.heap.size) (.slice a3 fl.length c3) fl rfl (osl_ext gBy HO.out extA) (.slice (some ⟨wr.heap.size, 0, none⟩) 1 1) [b8 x] rfl (rd_one rfl (rangeAt1 (by first | (with_reducible assumption) | go_simp)) (show RBy _ _ [_] (b8 x) from rfl) rfl (by first | omega | (simp <;> omega)) (Nat.le_refl _) (by unfold maxLen; omega)) one_by (fun j hj _ => ⟨trivial, fun e => by have := (osl_lt HO.out j e.symm).2; omega⟩) (by_len HFL.out (Nat.le_trans (Nat.le_refl 1) (by decide))) (by_byt HFL.out (Nat.le_trans (Nat.le_refl 1) (by decide))) (Nat.zero_le _) ?_; intro v9 w9 hown9 hg9 hat9; obtain ⟨a9, n9, c9, rfl⟩ := osl_slice hown9; have HX9 := Lib.hid (show Ext w w9 from ext_grow (ext_trans HX.out extA) hg9 (fun j hj => HB.out j hj)); have HB9 := Lib.hid (own_new HB.out hat9 (Nat.le_trans HX.out.size (show Ext wr _ from ext_alloc (ext_refl _) _).size)); clear hg9 hat9)))
      go_roundw
      case rel => exact ⟨k + 1, by omega, by go_num, Lib.hid (by rw [← HS.out]; exact hown9), HB9, HX9⟩
      case measure => simp [intOf]; omega
    · obtain rfl : k = xs.length := by omega
      have ho := HO.out
      rw [List.take_of_length_le (Nat.le_refl _)] at ho
      have hcv := by_str ho (by simp [HNE.out])
      rw [show (List.map b8 (List.take xs.length xs)).length = (List.map b8 xs).length by rw [List.take_of_length_le (Nat.le_refl _)]]
      clear HO ho
      obtain ⟨bl, hbl⟩ : ∃ bl, bl = xs.map b8 := ⟨_, rfl⟩
      rw [← hbl] at hcv ⊢
      have HBL := Lib.hid hbl
      clear hbl
      go_wp2_with fail
      go_ret
      refine ⟨?_, HX.out⟩
      rw [← HBL.out]
      rfl
theorem two_mod {n : Int} (h0 : 0 ≤ n) : [n % 256, n / 256].map b8 = twoB n := by
  unfold twoB b8
  simp
set_option maxRecDepth 100000 in
set_option maxHeartbeats 4000000 in
theorem twoBytes_any {w : World} {n : Nat} (h1 : n ≤ 100000) :
    Calls Try.prog 33 #[.int .i64 n] w fun e w' => e = .returned (.string ⟨(twoB n).toArray⟩) ∧ Ext w w' := by
  have HI := Lib.hid (show I64 ((n : Int) % 256) from ⟨by omega, by omega⟩)
  have HJ := Lib.hid (show I64 ((n : Int) / 256) from ⟨by omega, by omega⟩)
  have HT := Lib.hid (two_mod (n := (n : Int)) (by omega))
  have HP := Lib.hid (fun (W : World) (v : Value) (hx : Ext w W) (hv : RSl RInt 1 (fun j => w.heap.size ≤ j) W v [(n : Int) % 256, (n : Int) / 256]) => bytesOf_any hv (show 2 ≤ 1000 by omega) (by simp))
  go_enter Try.func33, Try.ntmps33
  go_wp2_with (first | (go_at_call 32; go_must ((with_reducible refine (HP.out _ _ extA (rd_int2 (x := (n : Int) % 256) (y := (n : Int) / 256) (by first | (with_reducible assumption) | go_simp) (by first | (with_reducible assumption) | go_simp) HI.out HJ.out (Nat.le_refl _) (by first | omega | (simp <;> omega)))).mono ?_); rintro e w1 ⟨rfl, hx1⟩; skip)))
  go_ret
  refine ⟨?_, ext_trans extA hx1⟩
  rw [← HT.out]
  rfl
end Go.Proofs.Ytiladkinndgeaaa
/- Bytes by the document: marks. -/
namespace Go.Proofs.Ytiladkinndgeaaa
open Go Go.RowKit Go.BigFrame Cp

theorem bapp {x y : ByteArray} {p q : Tx} (hx : x = ⟨p.toArray⟩) (hy : y = ⟨q.toArray⟩) : x ++ y = ⟨(p ++ q).toArray⟩ := by
  subst hx hy
  apply ByteArray.ext
  simp
theorem bsize {x : ByteArray} {p : Tx} (hx : x = ⟨p.toArray⟩) : x.size = p.length := by subst hx; show (List.toArray p).size = p.length; simp
theorem rs {a b : ByteArray} (h : a = b) : Ending.returned (.string a) = .returned (.string b) := by rw [h]
set_option maxRecDepth 100000 in
set_option maxHeartbeats 4000000 in
theorem markBytes_any {F : Nat → Prop} {w : World} {cs : List Value} {m : Mk} (hm : RMk F w cs m) (hp : m.1.length ≤ 1000) (h0 : 0 ≤ m.2) (h1 : m.2 ≤ 100000) :
    Calls Try.prog 34 #[.agg cs.toArray] w fun e w' => e = .returned (.string ⟨(markB m).toArray⟩) ∧ Ext w w' := by
  obtain ⟨v, rfl, hv, hi⟩ := hm
  obtain ⟨p, cl⟩ := m
  simp only at hv hi hp h0 h1 ⊢
  obtain ⟨c, rfl⟩ : ∃ c : Nat, cl = (c : Int) := ⟨cl.toNat, by omega⟩
  have HV := Lib.hid (fun (W : World) (hx : Ext w W) => hv.ext gStp hx)
  obtain ⟨a0, n0, c0, rfl⟩ := hv.slice
  obtain rfl : n0 = p.length := hv.len.1
  have HI := Lib.hid (show I64 (p.length : Int) from i64_small (by omega) (by omega))
  have HB1 := Lib.hid (fun (W : World) (v : Value) (hx : Ext w W) (hv : RSl RInt 1 (fun j => w.heap.size ≤ j) W v [(p.length : Int)]) => bytesOf_any hv (show 1 ≤ 1000 by omega) (by simp))
  have HT := Lib.hid (fun (W : World) => twoBytes_any (w := W) (n := c) (by omega))
  have HCL := Lib.hid h1
  clear hv hi h0 h1
  go_enter Try.func34, Try.ntmps34
  go_wp2_with (first | (go_at_call 32; go_must ((with_reducible refine (HB1.out _ _ extA (rd_int1 (by first | (with_reducible assumption) | go_simp) HI.out (by first | omega | (simp <;> omega)) (by first | omega | (simp <;> omega)))).mono ?_); rintro e w1 ⟨rfl, hx1⟩; have hz1 := hx1.size; (try simp at hz1); have b1_0 := (hx1.cells (w.heap.size) 0 (by first | omega | (simp <;> omega))).trans (show _ = some (.slice a0 p.length c0) by go_simp); have b1_1 := (hx1.cells (w.heap.size) 1 (by first | omega | (simp <;> omega))).trans (show _ = some (.int .i64 c) by go_simp))))
  refine wp_name (fun W2 eW2 => ?_)
  have HX2 := Lib.hid (show Ext w W2 by rw [eW2]; exact ext_trans extA (ext_trans hx1 extA))
  have x0 : W2.cell? ⟨w.heap.size, 0, none⟩ = some (.slice a0 p.length c0) := by rw [eW2]; go_simp
  have x1 : W2.cell? ⟨w.heap.size, 1, none⟩ = some (.int .i64 c) := by rw [eW2]; go_simp
  have z2 : w.heap.size < W2.heap.size := World.block_lt_of_cell? _ _ x0
  clear eW2 hx1 HB1 hz1 b1_0 b1_1
  go_loopw [3, 4] (fun sv iv wr => ∃ (k : Nat) (t : ByteArray), k ≤ p.length ∧ iv = .int .i64 k ∧ sv = .string t ∧ Hid (t = ⟨(b8 p.length :: (p.take k).flatMap stpB).toArray⟩) ∧ t.size ≤ 3000 ∧ Hid (Ext W2 wr)) (fun _ iv _ => p.length - (intOf iv).toNat)
  case atStart => exact ⟨0, _, Nat.zero_le _, rfl, rfl, Lib.hid (by simp), by rw [bsize rfl]; simp, Lib.hid extA⟩
  case round =>
    obtain ⟨k, t, hk, rfl, rfl, HTX, hts, HX⟩ := hrel
    have y0 := (HX.out.cells _ 0 z2).trans x0
    have y1 := (HX.out.cells _ 1 z2).trans x1
    have zr : w.heap.size < wr.heap.size := World.block_lt_of_cell? _ _ y0
    have HXW := Lib.hid (ext_trans HX2.out HX.out)
    clear x0 x1
    by_cases hlt : k < p.length
    · obtain ⟨g, o, x, y, rfl, hg, ek, ix, iy, s0, s1⟩ := stp_at (HV.out wr HXW.out) hlt
      have HE := Lib.hid (flat_snoc (f := stpB) ek)
      have HIX := Lib.hid ix
      have HIY := Lib.hid iy
      obtain ⟨eb, heb⟩ : ∃ eb : ByteArray, eb = ⟨([x, y].map b8).toArray⟩ := ⟨_, rfl⟩
      have HEB := Lib.hid heb
      have HPP := Lib.hid (fun (W : World) (v : Value) (hx : Ext wr W) (hv : RSl RInt 1 (fun j => wr.heap.size ≤ j) W v [x, y]) => (heb ▸ bytesOf_any hv (show 2 ≤ 1000 by omega) (by simp) : Calls Try.prog 32 #[v] W fun e w' => e = .returned (.string eb) ∧ Ext W w'))
      have hes : eb.size = 2 := by rw [heb]; rfl
      have hsum : ¬ 9223372036854775807 < t.size + eb.size := by omega
      have HSZ := Lib.hid (show (t ++ eb).size ≤ 3000 by rw [bsize (bapp HTX.out heb), List.length_append, List.length_cons, stpB_len, List.length_take]; simp; omega)
      clear ek ix iy heb hes hts
      go_wp2_with fail
      go_region_held3 (fun W => W.cell? ⟨w.heap.size, 0, none⟩ = some (.slice (some ⟨g, o, none⟩) p.length c0) ∧ W.cell? ⟨g, o + k * 2, none⟩ = some (.int .i64 x) ∧ W.cell? ⟨g, o + k * 2 + 1, none⟩ = some (.int .i64 y))
        (first | (refine ⟨?_, ?_, ?_⟩ <;> (with_reducible assumption)) | go_keep | (exact ⟨(HX3.out.cells _ _ zr).trans y0, (HX3.out.cells _ _ hg).trans s0, (HX3.out.cells _ _ hg).trans s1⟩)) (first | (go_at_call 32; go_must ((with_reducible refine (HPP.out _ _ extA (rd_int2 (x := x) (y := y) (by first | (with_reducible assumption) | go_simp) (by first | (with_reducible assumption) | go_simp) HIX.out HIY.out (by first | omega | (simp <;> omega)) (by first | omega | (simp <;> omega)))).mono ?_); rintro e w3 ⟨rfl, hx3⟩; have HX3 := Lib.hid (show Ext wr w3 from ext_trans extA hx3); clear hx3)))
      all_goals (go_wp2_with fail; go_roundw)
      case rel => exact ⟨k + 1, _, by omega, by go_num, rfl, Lib.hid (by rw [bapp HTX.out HEB.out, HE.out]; simp [stpB]), HSZ.out, Lib.hid (ext_trans HX.out HX3.out)⟩
      case measure => simp [intOf]; omega
    · obtain rfl : k = p.length := by omega
      have HT9 := HTX.out
      rw [List.take_of_length_le (Nat.le_refl _)] at HT9
      obtain ⟨eb, heb⟩ : ∃ eb : ByteArray, eb = ⟨(twoB c).toArray⟩ := ⟨_, rfl⟩
      have HT2 := Lib.hid (fun (W : World) => (heb ▸ HT.out W : Calls Try.prog 33 #[.int .i64 c] W fun e w' => e = .returned (.string eb) ∧ Ext W w'))
      have hes : eb.size = 2 := by rw [heb]; rfl
      have hsum : ¬ 9223372036854775807 < t.size + eb.size := by omega
      have HF := Lib.hid (show t ++ eb = ⟨(markB (p, (c : Int))).toArray⟩ by rw [bapp HT9 heb]; unfold markB; simp)
      clear HT9 heb hes HTX
      go_wp2_with (first | (go_at_call 33; go_must ((with_reducible refine (HT2.out _).mono ?_); rintro e w5 ⟨rfl, hx5⟩; skip)))
      go_ret
      exact ⟨rs HF.out, ext_trans HXW.out (ext_trans extA hx5)⟩
end Go.Proofs.Ytiladkinndgeaaa
/- A note's bytes, by the document. -/
namespace Go.Proofs.Ytiladkinndgeaaa
open Go Go.RowKit Go.BigFrame Cp

theorem bytes_as {F : Nat → Prop} {w : World} {v : Value} {xs : List Int} {eb : ByteArray} (he : eb = ⟨(xs.map b8).toArray⟩) (hv : RSl RInt 1 F w v xs) (hx : xs.length ≤ 1000) (hn : xs ≠ []) :
    Calls Try.prog 32 #[v] w fun e w' => e = .returned (.string eb) ∧ Ext w w' := by subst he; exact bytesOf_any hv hx hn
theorem two_as {w : World} {n : Nat} {eb : ByteArray} (he : eb = ⟨(twoB n).toArray⟩) (h1 : n ≤ 100000) : Calls Try.prog 33 #[.int .i64 n] w fun e w' => e = .returned (.string eb) ∧ Ext w w' := by subst he; exact twoBytes_any h1
theorem mark_as {F : Nat → Prop} {w : World} {cs : List Value} {m : Mk} {eb : ByteArray} (he : eb = ⟨(markB m).toArray⟩) (hm : RMk F w cs m) (hp : m.1.length ≤ 1000) (h0 : 0 ≤ m.2) (h1 : m.2 ≤ 100000) :
    Calls Try.prog 34 #[.agg cs.toArray] w fun e w' => e = .returned (.string eb) ∧ Ext w w' := by subst he; exact markBytes_any hm hp h0 h1
theorem bytes1 {W : World} {blk : Nat} {y : Int} {eb : ByteArray} {R : Ending → World → Prop} (hc : W.cell? ⟨blk, 0, none⟩ = some (.int .i64 y)) (hb : blk < W.heap.size) (hi : I64 y) (he : eb = ⟨([y].map b8).toArray⟩) (k : ∀ w', Ext W w' → R (.returned (.string eb)) w') :
    Calls Try.prog 32 #[.slice (some ⟨blk, 0, none⟩) 1 1] W R :=
  (bytes_as he (rd_int1 (F := fun _ => True) hc hi trivial hb) (show 1 ≤ 1000 by omega) (by simp)).mono (fun e w' ⟨h1, h2⟩ => by subst h1; exact k w' h2)
set_option maxRecDepth 100000 in
set_option maxHeartbeats 4000000 in
theorem encodeOf_any {F : Nat → Prop} {w : World} {cs : List Value} {n : No} (h : RNo F w cs n) (hc : checkN n = 0) :
    Calls Try.prog 10 #[.agg cs.toArray] w fun e w' => e = .returned (.string ⟨(noteB n).toArray⟩) ∧ Ext w w' := by
  obtain ⟨v, x, rfl, hi1, hi2, h1, h2⟩ := h
  have HL1 := Lib.hid (fun (W : World) (hx : Ext w W) => h1.ext gInt hx)
  have HL2 := Lib.hid (fun (W : World) (hx : Ext w W) => h2.ext gDe hx)
  obtain ⟨a1, n1, c1, rfl⟩ := h1.slice
  obtain ⟨a2, n2, c2, rfl⟩ := h2.slice
  obtain rfl : n1 = n.needs.length := h1.len.1
  obtain rfl : n2 = n.deeds.length := h2.len.1
  obtain ⟨k1, k2, k3, k4, _, k6, k7, k8⟩ := checkN_okP hc
  have HNE := Lib.hid (needs_ok k4)
  have HDE := Lib.hid (checkDL_ok.1 k8)
  unfold inB at k1 k2
  simp at k1 k2
  obtain ⟨nu, hnu⟩ : ∃ nu : Nat, n.number = (nu : Int) := ⟨n.number.toNat, by omega⟩
  have HN5 := Lib.hid (show n.needs.length = 5 from k3)
  have hd20 : n.deeds.length ≤ 20 := k7
  have hn1000 : n.needs.length ≤ 1000 := by omega
  obtain ⟨ea, hea⟩ : ∃ e : ByteArray, e = ⟨([n.site].map b8).toArray⟩ := ⟨_, rfl⟩
  obtain ⟨eb, heb⟩ : ∃ e : ByteArray, e = ⟨(twoB nu).toArray⟩ := ⟨_, rfl⟩
  have HBO := Lib.hid (fun (W : World) (v : Value) (hx : Ext w W) (hv : RSl RInt 1 (fun j => w.heap.size ≤ j) W v [n.site]) => bytes_as hea hv (show 1 ≤ 1000 by omega) (by simp))
  have HTB := Lib.hid (fun (W : World) => two_as (w := W) heb (show nu ≤ 100000 by omega))
  have HSI := Lib.hid (show I64 n.site from i64_small (by omega) (by omega))
  have HEA := Lib.hid hea
  have HEB := Lib.hid heb
  have hsa : ea.size = 1 := by rw [hea]; rfl
  have hsb : eb.size = 2 := by rw [heb]; rfl
  have hsum : ¬ 9223372036854775807 < ea.size + eb.size := by omega
  have HPRE := Lib.hid (show ea ++ eb = ⟨([b8 n.site] ++ twoB n.number).toArray⟩ by rw [bapp hea heb, hnu]; rfl)
  have HNU := Lib.hid hnu
  clear h1 h2 hi1 hi2 hc k1 k2 k3 k4 k6 k7 k8 hea heb hsa hsb
  rw [hnu]
  clear hnu
  go_enter Try.func10, Try.ntmps10
  go_wp2_with fail
  refine wp_name (fun W1 eW1 => ?_)
  have x0 : W1.cell? ⟨w.heap.size, 0, none⟩ = some (.int .i64 n.site) := by rw [eW1]; go_simp
  have x1 : W1.cell? ⟨w.heap.size, 1, none⟩ = some (.int .i64 nu) := by rw [eW1]; go_simp
  have x2 : W1.cell? ⟨w.heap.size, 2, none⟩ = some (.slice a1 n.needs.length c1) := by rw [eW1]; go_simp
  have x3 : W1.cell? ⟨w.heap.size, 3, none⟩ = some (.slice a2 n.deeds.length c2) := by rw [eW1]; go_simp
  have HX1 := Lib.hid (show Ext w W1 by rw [eW1]; exact extA)
  have z1 : w.heap.size < W1.heap.size := World.block_lt_of_cell? _ _ x0
  clear eW1
  go_cut [3] from 4 (fun s wx => s = .string (ea ++ eb) ∧ Hid (Ext W1 wx))
  case first =>
    go_region_held3 (fun W => W.cell? ⟨w.heap.size, 0, none⟩ = some (.int .i64 n.site) ∧ W.cell? ⟨w.heap.size, 1, none⟩ = some (.int .i64 nu)) (first | (exact ⟨(hx3w.cells _ _ z1).trans x0, (hx3w.cells _ _ z1).trans x1⟩) | (exact ⟨(hx4w.cells _ _ z1).trans x0, (hx4w.cells _ _ z1).trans x1⟩) | (refine ⟨?_, ?_⟩ <;> (with_reducible assumption)) | go_keep) (first | (go_at_call 32; go_must ((with_reducible refine (HBO.out _ _ (ext_trans HX1.out extA) (RSl.more gInt (fun k hk _ => by have hk' : w.heap.size < k := hk; show w.heap.size ≤ k; omega) (rd_int1 (F := fun k => w.heap.size < k) (by first | (with_reducible assumption) | go_simp) HSI.out (by first | omega | (simp <;> omega)) (by first | omega | (simp <;> omega))))).mono ?_); rintro e w3 ⟨rfl, hx3⟩; have hx3w : Ext W1 w3 := extA; have hs3w := hx3w.size; clear hx3)) | (go_at_call 33; go_must ((with_reducible refine (HTB.out _).mono ?_); rintro e w4 ⟨rfl, hx4⟩; have hx4w : Ext W1 w4 := extA; have hs4w := hx4w.size; clear hx4)))
    all_goals (go_wp2_with fail; go_meet)
    all_goals exact ⟨rfl, Lib.hid extA⟩
  case rest =>
    obtain ⟨rfl, HXC⟩ := hcut
    have HXW := Lib.hid (ext_trans HX1.out HXC.out)
    have y0 := (HXC.out.cells _ 0 z1).trans x0
    have y1 := (HXC.out.cells _ 1 z1).trans x1
    have y2 := (HXC.out.cells _ 2 z1).trans x2
    have y3 := (HXC.out.cells _ 3 z1).trans x3
    have zc : w.heap.size < wc.heap.size := World.block_lt_of_cell? _ _ y0
    clear x0 x1 x2 x3 HBO HTB HX1
    have HP0 := Lib.hid (show ea ++ eb = ⟨([b8 n.site] ++ twoB n.number ++ ([] : List Int).flatMap twoB).toArray⟩ by rw [HPRE.out]; simp)
    have hps : (ea ++ eb).size ≤ 3000 := by rw [bsize HPRE.out]; simp [twoB]
    generalize ea ++ eb = pr at *
    go_wp2_with fail
    go_loopw [3, 4] (fun sv iv wr => ∃ (k : Nat) (t : ByteArray), k ≤ n.needs.length ∧ iv = .int .i64 k ∧ sv = .string t ∧ Hid (t = ⟨([b8 n.site] ++ twoB n.number ++ (n.needs.take k).flatMap twoB).toArray⟩) ∧ t.size ≤ 3000 ∧ Hid (Ext wc wr)) (fun _ iv _ => n.needs.length - (intOf iv).toNat)
    case atStart => exact ⟨0, _, Nat.zero_le _, rfl, rfl, HP0, hps, Lib.hid extA⟩
    case round =>
      obtain ⟨k, t, hk, rfl, rfl, HT, hts, HX⟩ := hrel
      have u0 := (HX.out.cells _ 0 zc).trans y0
      have u1 := (HX.out.cells _ 1 zc).trans y1
      have u2 := (HX.out.cells _ 2 zc).trans y2
      have u3 := (HX.out.cells _ 3 zc).trans y3
      have HXR := Lib.hid (ext_trans HXW.out HX.out)
      have zr : w.heap.size < wr.heap.size := World.block_lt_of_cell? _ _ u0
      have HK5 := Lib.hid (show k ≤ 5 by have := HN5.out; omega)
      clear y0 y1 y2 y3
      by_cases hlt : k < n.needs.length
      · obtain ⟨g, o, x, rfl, hg, ek, ix, s0⟩ := int_at (HL1.out wr HXR.out) hlt
        have HE := Lib.hid (flat_snoc (f := twoB) ek)
        have hxk := HNE.out x (List.mem_of_getElem? ek)
        obtain ⟨xn, rfl⟩ : ∃ xn : Nat, x = (xn : Int) := ⟨x.toNat, by omega⟩
        obtain ⟨ec, hec⟩ : ∃ e : ByteArray, e = ⟨(twoB xn).toArray⟩ := ⟨_, rfl⟩
        have HTW := Lib.hid (fun (W : World) => two_as (w := W) hec (show xn ≤ 100000 by omega))
        have hsc : ec.size = 2 := by rw [hec]; rfl
        have hsum : ¬ 9223372036854775807 < t.size + ec.size := by omega
        have HTE := Lib.hid (show t ++ ec = ⟨([b8 n.site] ++ twoB n.number ++ (n.needs.take (k + 1)).flatMap twoB).toArray⟩ by rw [bapp HT.out hec, HE.out]; simp)
        have HSZ := Lib.hid (show (t ++ ec).size ≤ 3000 by rw [bsize HTE.out, List.length_append, two_len, List.length_take]; have := HK5.out; simp [twoB]; omega)
        clear ek ix hxk hec hsc hts
        go_wp2_with (first | (go_at_call 33; go_must ((with_reducible refine (HTW.out _).mono ?_); rintro e w6 ⟨rfl, hx6⟩; skip)))
        go_roundw
        case rel => exact ⟨k + 1, _, by omega, by go_num, rfl, HTE, HSZ.out, Lib.hid (ext_trans HX.out (ext_trans extA hx6))⟩
        case measure => simp [intOf]; omega
      · obtain rfl : k = n.needs.length := by omega
        have HT7 := HT.out
        rw [List.take_of_length_le (Nat.le_refl _)] at HT7
        obtain ⟨ed, hed⟩ : ∃ e : ByteArray, e = ⟨([(n.deeds.length : Int)].map b8).toArray⟩ := ⟨_, rfl⟩
        have HED := Lib.hid hed
        have HDL := Lib.hid (show I64 (n.deeds.length : Int) from i64_small (by omega) (by omega))
        have hsd : ed.size = 1 := by rw [hed]; rfl
        have hsum : ¬ 9223372036854775807 < t.size + ed.size := by omega
        have HP0' := Lib.hid (show t ++ ed = ⟨([b8 n.site] ++ twoB n.number ++ n.needs.flatMap twoB ++ [b8 n.deeds.length] ++ ([] : List De).flatMap deedB).toArray⟩ by rw [bapp HT7 hed]; simp)
        have hps' : (t ++ ed).size ≤ 3000 := by rw [bsize HP0'.out, List.length_append, List.length_append, List.length_append, two_len, HN5.out]; simp [twoB]
        clear HT HT7 hed hsd hts
        go_wp2_with (first | (go_at_call 32; refine bytes1 (y := (n.deeds.length : Int)) ?_ ?_ HDL.out HED.out ?_; (focus ((first | (with_reducible assumption) | go_simp); done)); (focus ((first | omega | (simp <;> omega)); done)); intro w7 hx7; have hz7 := hx7.size; (try simp at hz7); have p0 := (hx7.cells (w.heap.size) 0 (by first | omega | (simp <;> omega))).trans (show _ = some (.int .i64 n.site) by first | (with_reducible assumption) | go_simp); have p1 := (hx7.cells (w.heap.size) 1 (by first | omega | (simp <;> omega))).trans (show _ = some (.int .i64 nu) by first | (with_reducible assumption) | go_simp); have p2 := (hx7.cells (w.heap.size) 2 (by first | omega | (simp <;> omega))).trans (show _ = some (.slice a1 n.needs.length c1) by first | (with_reducible assumption) | go_simp); have p3 := (hx7.cells (w.heap.size) 3 (by first | omega | (simp <;> omega))).trans (show _ = some (.slice a2 n.deeds.length c2) by first | (with_reducible assumption) | go_simp)))
        generalize t ++ ed = pr' at *
        refine wp_name (fun W4 eW4 => ?_)
        have HX4 := Lib.hid (show Ext wr W4 by rw [eW4]; exact ext_trans extA (ext_trans hx7 extA))
        have HXW4 := Lib.hid (ext_trans HXR.out HX4.out)
        have v3 := (HX4.out.cells _ 3 zr).trans u3
        have zw4 : w.heap.size < W4.heap.size := World.block_lt_of_cell? _ _ v3
        clear eW4 hx7 u0 u1 u2 u3 p0 p1 p2 p3 HX HXR hsum
        go_loopw [3, 5] (fun sv iv wq => ∃ (k : Nat) (t : ByteArray), k ≤ n.deeds.length ∧ iv = .int .i64 k ∧ sv = .string t ∧ Hid (t = ⟨([b8 n.site] ++ twoB n.number ++ n.needs.flatMap twoB ++ [b8 n.deeds.length] ++ (n.deeds.take k).flatMap deedB).toArray⟩) ∧ t.size ≤ 3000 ∧ Hid (Ext W4 wq)) (fun _ iv _ => n.deeds.length - (intOf iv).toNat)
        case atStart => exact ⟨0, _, Nat.zero_le _, rfl, rfl, HP0', hps', Lib.hid extA⟩
        case round =>
          obtain ⟨k, t, hk, rfl, rfl, HT, hts, HX⟩ := hrel
          have u3 := (HX.out.cells _ 3 zw4).trans v3
          have zr : w.heap.size < wr.heap.size := World.block_lt_of_cell? _ _ u3
          have HXR := Lib.hid (ext_trans HXW4.out HX.out)
          have HK20 := Lib.hid (show k ≤ 20 by omega)
          clear v3
          by_cases hlt : k < n.deeds.length
          · obtain ⟨g, o, d, b1', m1', k1', b2', m2', k2', sx, rfl, hg, ek, hde, s0, s1, s2, s3, s4, s5, s6⟩ := deed_at (HL2.out wr HXR.out) hlt
            have HE := Lib.hid (flat_snoc (f := deedB) ek)
            have HCK := Lib.hid (HDE.out d (List.mem_of_getElem? ek))
            have hdl := deedB_len HCK.out
            obtain ⟨ef, hef⟩ : ∃ e : ByteArray, e = ⟨(deedB d).toArray⟩ := ⟨_, rfl⟩
            have HTE := Lib.hid (show t ++ ef = ⟨([b8 n.site] ++ twoB n.number ++ n.needs.flatMap twoB ++ [b8 n.deeds.length] ++ (n.deeds.take (k + 1)).flatMap deedB).toArray⟩ by rw [bapp HT.out hef, HE.out]; simp)
            have hsf : ef.size ≤ 100 := by rw [bsize hef]; exact hdl
            have HSZ := Lib.hid (show (t ++ ef).size ≤ 3000 by
              rw [bsize HTE.out]
              have h5 := deeds_len (l := n.deeds.take (k + 1)) (fun d hd => HDE.out d (List.mem_of_mem_take hd))
              rw [List.length_take] at h5
              simp only [List.length_append, two_len, HN5.out, List.length_cons, List.length_nil, twoB]
              omega)
            have hgr : ¬ g = wr.heap.size := by omega
            obtain ⟨q1, q2, q3, he, ik, r1, r2, r3, r4, r5, r6⟩ := hde
            injection he with he0 he
            injection he with he1 he
            injection he with he2 he
            injection he with he3 he
            injection he with he4 he
            subst he1
            subst he3
            subst he4
            have HR1 := Lib.hid r1
            have HR4 := Lib.hid r4
            obtain ⟨hsx, hsl⟩ := r3
            injection hsx with hsx
            have HIK := Lib.hid ik
            have HI2 := Lib.hid r2
            have HI5 := Lib.hid r5
            have HI6 := Lib.hid r6
            clear ek he he0 he2 r1 r2 r4 r5 r6 ik hdl HT
            go_upto_if 51 with fail
            refine wp_name (fun W5 eW5 => ?_)
            have d0 : W5.cell? ⟨wr.heap.size, 0, none⟩ = some (.int .i64 d.kind) := by rw [eW5]; go_simp
            have d1 : W5.cell? ⟨wr.heap.size, 1, none⟩ = some (.slice b1' m1' k1') := by rw [eW5]; go_simp
            have d2 : W5.cell? ⟨wr.heap.size, 2, none⟩ = some (.int .i64 d.run.1.2) := by rw [eW5]; go_simp
            have d3 : W5.cell? ⟨wr.heap.size, 3, none⟩ = some (.string sx) := by rw [eW5]; go_simp
            have d4 : W5.cell? ⟨wr.heap.size, 4, none⟩ = some (.slice b2' m2' k2') := by rw [eW5]; go_simp
            have d5 : W5.cell? ⟨wr.heap.size, 5, none⟩ = some (.int .i64 d.mark.2) := by rw [eW5]; go_simp
            have d6 : W5.cell? ⟨wr.heap.size, 6, none⟩ = some (.int .i64 d.many) := by rw [eW5]; go_simp
            have zd : wr.heap.size < W5.heap.size := World.block_lt_of_cell? _ _ d0
            have HX5 := Lib.hid (show Ext wr W5 by rw [eW5]; exact extA)
            clear eW5 s0 s1 s2 s3 s4 s5 s6
            by_cases hkd : d.kind = 1
            · have t1 : (d.kind == 1) = true := by rw [hkd]; rfl
              obtain ⟨hr, _, _⟩ := deed_put HCK.out hkd
              obtain ⟨hm, _, hl1, _, _⟩ := checkR_parts hr
              obtain ⟨hm1, hm2, hm3, _⟩ := stp_ok hm
              obtain ⟨e1, he1⟩ : ∃ e : ByteArray, e = ⟨([(1 : Int)].map b8).toArray⟩ := ⟨_, rfl⟩
              obtain ⟨e2, he2⟩ : ∃ e : ByteArray, e = ⟨(markB d.run.1).toArray⟩ := ⟨_, rfl⟩
              obtain ⟨e3, he3⟩ : ∃ e : ByteArray, e = ⟨([(sx.size : Int)].map b8).toArray⟩ := ⟨_, rfl⟩
              have hss : sx.size = d.run.2.length := bsize hsx
              have z1' : e1.size = 1 := by rw [he1]; rfl
              have z2' : e2.size ≤ 30 := by rw [bsize he2, markB_len]; omega
              have z3' : e3.size = 1 := by rw [he3]; rfl
              have G1 : ¬ 9223372036854775807 < e1.size + e2.size := by omega
              have G2 : ¬ 9223372036854775807 < (e1 ++ e2).size + e3.size := by rw [ByteArray.size_append]; omega
              have G2' : ¬ 9223372036854775807 < e1.size + e2.size + e3.size := by omega
              have G3 : ¬ 9223372036854775807 < ((e1 ++ e2) ++ e3).size + sx.size := by rw [ByteArray.size_append, ByteArray.size_append]; omega
              have G3' : ¬ 9223372036854775807 < e1.size + e2.size + e3.size + sx.size := by omega
              have G4 : ¬ 9223372036854775807 < t.size + (((e1 ++ e2) ++ e3) ++ sx).size := by rw [ByteArray.size_append, ByteArray.size_append, ByteArray.size_append]; omega
              have G4' : ¬ 9223372036854775807 < t.size + (e1.size + e2.size + e3.size + sx.size) := by omega
              have HALL := Lib.hid (show t ++ (((e1 ++ e2) ++ e3) ++ sx) = t ++ ef by
                rw [hef, bapp (bapp (bapp he1 he2) he3) hsx]
                unfold deedB
                rw [if_neg (by omega), hkd, hss]
                simp)
              have HE1 := Lib.hid he1
              have HE3 := Lib.hid he3
              have HS64 := Lib.hid (show I64 (sx.size : Int) from i64_small (by omega) (by omega))
              have HO64 := Lib.hid (show I64 1 from ⟨by decide, by decide⟩)
              have HMB := Lib.hid (fun (W : World) (hx : Ext W5 W) => mark_as he2 (rmk_of' (HR1.out.ext gStp (ext_trans HX5.out hx)) HI2.out : RMk _ W [.slice b1' m1' k1', .int .i64 d.run.1.2] d.run.1) (by omega) (by omega) (by omega))
              clear hm hm1 hm2 hm3 hr hl1 hkd hss z1' z2' z3' he1 he2 he3 hsx hef hsf hsl
              go_wp2_with fail
              go_region_held3 (fun W => W.cell? ⟨wr.heap.size, 1, none⟩ = some (.slice b1' m1' k1') ∧ W.cell? ⟨wr.heap.size, 2, none⟩ = some (.int .i64 d.run.1.2) ∧ W.cell? ⟨wr.heap.size, 3, none⟩ = some (.string sx)) (first | (refine ⟨?_, ?_, ?_⟩ <;> (with_reducible assumption)) | (exact ⟨(hx10w.cells _ _ zd).trans d1, (hx10w.cells _ _ zd).trans d2, (hx10w.cells _ _ zd).trans d3⟩) | (exact ⟨(hx11w.cells _ _ zd).trans d1, (hx11w.cells _ _ zd).trans d2, (hx11w.cells _ _ zd).trans d3⟩) | (exact ⟨(hx12w.cells _ _ zd).trans d1, (hx12w.cells _ _ zd).trans d2, (hx12w.cells _ _ zd).trans d3⟩) | go_keep) (first | (go_at_call 32; refine bytes1 (y := 1) ?_ ?_ HO64.out HE1.out ?_; (focus ((first | (with_reducible assumption) | (go_simp; done) | (refine (Ext.cells hx10 _ _ ?_).trans ?_; (focus ((first | omega | (simp <;> omega)); done)); (first | (with_reducible assumption) | (go_simp; done) | (refine (Ext.cells hx10 _ _ ?_).trans ?_; (focus ((first | omega | (simp <;> omega)); done)); (first | (with_reducible assumption) | (go_simp; done))) | (refine (Ext.cells hx11 _ _ ?_).trans ?_; (focus ((first | omega | (simp <;> omega)); done)); (first | (with_reducible assumption) | (go_simp; done))) | (refine (Ext.cells hx12 _ _ ?_).trans ?_; (focus ((first | omega | (simp <;> omega)); done)); (first | (with_reducible assumption) | (go_simp; done))))) | (refine (Ext.cells hx11 _ _ ?_).trans ?_; (focus ((first | omega | (simp <;> omega)); done)); (first | (with_reducible assumption) | (go_simp; done) | (refine (Ext.cells hx10 _ _ ?_).trans ?_; (focus ((first | omega | (simp <;> omega)); done)); (first | (with_reducible assumption) | (go_simp; done))) | (refine (Ext.cells hx11 _ _ ?_).trans ?_; (focus ((first | omega | (simp <;> omega)); done)); (first | (with_reducible assumption) | (go_simp; done))) | (refine (Ext.cells hx12 _ _ ?_).trans ?_; (focus ((first | omega | (simp <;> omega)); done)); (first | (with_reducible assumption) | (go_simp; done))))) | (refine (Ext.cells hx12 _ _ ?_).trans ?_; (focus ((first | omega | (simp <;> omega)); done)); (first | (with_reducible assumption) | (go_simp; done) | (refine (Ext.cells hx10 _ _ ?_).trans ?_; (focus ((first | omega | (simp <;> omega)); done)); (first | (with_reducible assumption) | (go_simp; done))) | (refine (Ext.cells hx11 _ _ ?_).trans ?_; (focus ((first | omega | (simp <;> omega)); done)); (first | (with_reducible assumption) | (go_simp; done))) | (refine (Ext.cells hx12 _ _ ?_).trans ?_; (focus ((first | omega | (simp <;> omega)); done)); (first | (with_reducible assumption) | (go_simp; done)))))); done)); (focus ((first | omega | (simp <;> omega)); done)); intro w10 hx10; have hx10w : Ext W5 w10 := extA; have hs10w := hx10w.size; have hq10 := hx10.size; (try simp at hq10)) | (go_at_call 34; ((with_reducible refine (HMB.out _ extA).mono ?_); rintro e w11 ⟨rfl, hx11⟩; have hx11w : Ext W5 w11 := extA; have hs11w := hx11w.size; have hq11 := hx11.size; (try simp at hq11))) | (go_at_call 32; refine bytes1 (y := (sx.size : Int)) ?_ ?_ HS64.out HE3.out ?_; (focus ((first | (with_reducible assumption) | (go_simp; done) | (refine (Ext.cells hx10 _ _ ?_).trans ?_; (focus ((first | omega | (simp <;> omega)); done)); (first | (with_reducible assumption) | (go_simp; done) | (refine (Ext.cells hx10 _ _ ?_).trans ?_; (focus ((first | omega | (simp <;> omega)); done)); (first | (with_reducible assumption) | (go_simp; done))) | (refine (Ext.cells hx11 _ _ ?_).trans ?_; (focus ((first | omega | (simp <;> omega)); done)); (first | (with_reducible assumption) | (go_simp; done))) | (refine (Ext.cells hx12 _ _ ?_).trans ?_; (focus ((first | omega | (simp <;> omega)); done)); (first | (with_reducible assumption) | (go_simp; done))))) | (refine (Ext.cells hx11 _ _ ?_).trans ?_; (focus ((first | omega | (simp <;> omega)); done)); (first | (with_reducible assumption) | (go_simp; done) | (refine (Ext.cells hx10 _ _ ?_).trans ?_; (focus ((first | omega | (simp <;> omega)); done)); (first | (with_reducible assumption) | (go_simp; done))) | (refine (Ext.cells hx11 _ _ ?_).trans ?_; (focus ((first | omega | (simp <;> omega)); done)); (first | (with_reducible assumption) | (go_simp; done))) | (refine (Ext.cells hx12 _ _ ?_).trans ?_; (focus ((first | omega | (simp <;> omega)); done)); (first | (with_reducible assumption) | (go_simp; done))))) | (refine (Ext.cells hx12 _ _ ?_).trans ?_; (focus ((first | omega | (simp <;> omega)); done)); (first | (with_reducible assumption) | (go_simp; done) | (refine (Ext.cells hx10 _ _ ?_).trans ?_; (focus ((first | omega | (simp <;> omega)); done)); (first | (with_reducible assumption) | (go_simp; done))) | (refine (Ext.cells hx11 _ _ ?_).trans ?_; (focus ((first | omega | (simp <;> omega)); done)); (first | (with_reducible assumption) | (go_simp; done))) | (refine (Ext.cells hx12 _ _ ?_).trans ?_; (focus ((first | omega | (simp <;> omega)); done)); (first | (with_reducible assumption) | (go_simp; done)))))); done)); (focus ((first | omega | (simp <;> omega)); done)); intro w12 hx12; have hx12w : Ext W5 w12 := extA; have hs12w := hx12w.size; have hq12 := hx12.size; (try simp at hq12)))
              all_goals (go_wp2_with fail; go_roundw)
              all_goals first
                | (show _ < _; simp [intOf]; omega)
                | exact ⟨k + 1, t ++ ef, by omega, by go_num, by rw [HALL.out], HTE, HSZ.out, Lib.hid (ext_trans HX.out (ext_trans HX5.out extA))⟩
            · have hk2 : d.kind = 2 := (deed_take HCK.out hkd).1
              have t1 : (d.kind == 1) = false := by rw [hk2]; rfl
              obtain ⟨_, hm, ⟨n', hn1, hn2, hn3⟩, _, _, _⟩ := deed_take HCK.out hkd
              obtain ⟨hm1, hm2, hm3, _⟩ := stp_ok hm
              obtain ⟨e1, he1⟩ : ∃ e : ByteArray, e = ⟨([(2 : Int)].map b8).toArray⟩ := ⟨_, rfl⟩
              obtain ⟨e2, he2⟩ : ∃ e : ByteArray, e = ⟨(markB d.mark).toArray⟩ := ⟨_, rfl⟩
              obtain ⟨e3, he3⟩ : ∃ e : ByteArray, e = ⟨([d.many].map b8).toArray⟩ := ⟨_, rfl⟩
              have z1' : e1.size = 1 := by rw [he1]; rfl
              have z2' : e2.size ≤ 30 := by rw [bsize he2, markB_len]; omega
              have z3' : e3.size = 1 := by rw [he3]; rfl
              have G1 : ¬ 9223372036854775807 < e1.size + e2.size := by omega
              have G2 : ¬ 9223372036854775807 < (e1 ++ e2).size + e3.size := by rw [ByteArray.size_append]; omega
              have G2' : ¬ 9223372036854775807 < e1.size + e2.size + e3.size := by omega
              have G4 : ¬ 9223372036854775807 < t.size + ((e1 ++ e2) ++ e3).size := by rw [ByteArray.size_append, ByteArray.size_append]; omega
              have G4' : ¬ 9223372036854775807 < t.size + (e1.size + e2.size + e3.size) := by omega
              have HALL := Lib.hid (show t ++ ((e1 ++ e2) ++ e3) = t ++ ef by
                rw [hef, bapp (bapp he1 he2) he3]
                unfold deedB
                rw [if_pos hk2, hk2]
                simp)
              have HE1 := Lib.hid he1
              have HE3 := Lib.hid he3
              have HO64 := Lib.hid (show I64 2 from ⟨by decide, by decide⟩)
              have HMB := Lib.hid (fun (W : World) (hx : Ext W5 W) => mark_as he2 (rmk_of' (HR4.out.ext gStp (ext_trans HX5.out hx)) HI5.out : RMk _ W [.slice b2' m2' k2', .int .i64 d.mark.2] d.mark) (by omega) (by omega) (by omega))
              clear hm hm1 hm2 hm3 hn1 hn2 hn3 hkd hk2 z1' z2' z3' he1 he2 he3 hsx hef hsf hsl
              go_wp2_with fail
              go_region_held3 (fun W => W.cell? ⟨wr.heap.size, 4, none⟩ = some (.slice b2' m2' k2') ∧ W.cell? ⟨wr.heap.size, 5, none⟩ = some (.int .i64 d.mark.2) ∧ W.cell? ⟨wr.heap.size, 6, none⟩ = some (.int .i64 d.many)) (first | (refine ⟨?_, ?_, ?_⟩ <;> (with_reducible assumption)) | (exact ⟨(hx10w.cells _ _ zd).trans d4, (hx10w.cells _ _ zd).trans d5, (hx10w.cells _ _ zd).trans d6⟩) | (exact ⟨(hx11w.cells _ _ zd).trans d4, (hx11w.cells _ _ zd).trans d5, (hx11w.cells _ _ zd).trans d6⟩) | (exact ⟨(hx12w.cells _ _ zd).trans d4, (hx12w.cells _ _ zd).trans d5, (hx12w.cells _ _ zd).trans d6⟩) | go_keep) (first | (go_at_call 32; refine bytes1 (y := 2) ?_ ?_ HO64.out HE1.out ?_; (focus ((first | (with_reducible assumption) | (go_simp; done) | (refine (Ext.cells hx10 _ _ ?_).trans ?_; (focus ((first | omega | (simp <;> omega)); done)); (first | (with_reducible assumption) | (go_simp; done) | (refine (Ext.cells hx10 _ _ ?_).trans ?_; (focus ((first | omega | (simp <;> omega)); done)); (first | (with_reducible assumption) | (go_simp; done))) | (refine (Ext.cells hx11 _ _ ?_).trans ?_; (focus ((first | omega | (simp <;> omega)); done)); (first | (with_reducible assumption) | (go_simp; done))) | (refine (Ext.cells hx12 _ _ ?_).trans ?_; (focus ((first | omega | (simp <;> omega)); done)); (first | (with_reducible assumption) | (go_simp; done))))) | (refine (Ext.cells hx11 _ _ ?_).trans ?_; (focus ((first | omega | (simp <;> omega)); done)); (first | (with_reducible assumption) | (go_simp; done) | (refine (Ext.cells hx10 _ _ ?_).trans ?_; (focus ((first | omega | (simp <;> omega)); done)); (first | (with_reducible assumption) | (go_simp; done))) | (refine (Ext.cells hx11 _ _ ?_).trans ?_; (focus ((first | omega | (simp <;> omega)); done)); (first | (with_reducible assumption) | (go_simp; done))) | (refine (Ext.cells hx12 _ _ ?_).trans ?_; (focus ((first | omega | (simp <;> omega)); done)); (first | (with_reducible assumption) | (go_simp; done))))) | (refine (Ext.cells hx12 _ _ ?_).trans ?_; (focus ((first | omega | (simp <;> omega)); done)); (first | (with_reducible assumption) | (go_simp; done) | (refine (Ext.cells hx10 _ _ ?_).trans ?_; (focus ((first | omega | (simp <;> omega)); done)); (first | (with_reducible assumption) | (go_simp; done))) | (refine (Ext.cells hx11 _ _ ?_).trans ?_; (focus ((first | omega | (simp <;> omega)); done)); (first | (with_reducible assumption) | (go_simp; done))) | (refine (Ext.cells hx12 _ _ ?_).trans ?_; (focus ((first | omega | (simp <;> omega)); done)); (first | (with_reducible assumption) | (go_simp; done)))))); done)); (focus ((first | omega | (simp <;> omega)); done)); intro w10 hx10; have hx10w : Ext W5 w10 := extA; have hs10w := hx10w.size; have hq10 := hx10.size; (try simp at hq10)) | (go_at_call 34; ((with_reducible refine (HMB.out _ extA).mono ?_); rintro e w11 ⟨rfl, hx11⟩; have hx11w : Ext W5 w11 := extA; have hs11w := hx11w.size; have hq11 := hx11.size; (try simp at hq11))) | (go_at_call 32; refine bytes1 (y := d.many) ?_ ?_ HI6.out HE3.out ?_; (focus ((first | (with_reducible assumption) | (go_simp; done) | (refine (Ext.cells hx10 _ _ ?_).trans ?_; (focus ((first | omega | (simp <;> omega)); done)); (first | (with_reducible assumption) | (go_simp; done) | (refine (Ext.cells hx10 _ _ ?_).trans ?_; (focus ((first | omega | (simp <;> omega)); done)); (first | (with_reducible assumption) | (go_simp; done))) | (refine (Ext.cells hx11 _ _ ?_).trans ?_; (focus ((first | omega | (simp <;> omega)); done)); (first | (with_reducible assumption) | (go_simp; done))) | (refine (Ext.cells hx12 _ _ ?_).trans ?_; (focus ((first | omega | (simp <;> omega)); done)); (first | (with_reducible assumption) | (go_simp; done))))) | (refine (Ext.cells hx11 _ _ ?_).trans ?_; (focus ((first | omega | (simp <;> omega)); done)); (first | (with_reducible assumption) | (go_simp; done) | (refine (Ext.cells hx10 _ _ ?_).trans ?_; (focus ((first | omega | (simp <;> omega)); done)); (first | (with_reducible assumption) | (go_simp; done))) | (refine (Ext.cells hx11 _ _ ?_).trans ?_; (focus ((first | omega | (simp <;> omega)); done)); (first | (with_reducible assumption) | (go_simp; done))) | (refine (Ext.cells hx12 _ _ ?_).trans ?_; (focus ((first | omega | (simp <;> omega)); done)); (first | (with_reducible assumption) | (go_simp; done))))) | (refine (Ext.cells hx12 _ _ ?_).trans ?_; (focus ((first | omega | (simp <;> omega)); done)); (first | (with_reducible assumption) | (go_simp; done) | (refine (Ext.cells hx10 _ _ ?_).trans ?_; (focus ((first | omega | (simp <;> omega)); done)); (first | (with_reducible assumption) | (go_simp; done))) | (refine (Ext.cells hx11 _ _ ?_).trans ?_; (focus ((first | omega | (simp <;> omega)); done)); (first | (with_reducible assumption) | (go_simp; done))) | (refine (Ext.cells hx12 _ _ ?_).trans ?_; (focus ((first | omega | (simp <;> omega)); done)); (first | (with_reducible assumption) | (go_simp; done)))))); done)); (focus ((first | omega | (simp <;> omega)); done)); intro w12 hx12; have hx12w : Ext W5 w12 := extA; have hs12w := hx12w.size; have hq12 := hx12.size; (try simp at hq12)))
              all_goals (go_wp2_with fail; go_roundw)
              all_goals first
                | (show _ < _; simp [intOf]; omega)
                | exact ⟨k + 1, t ++ ef, by omega, by go_num, by rw [HALL.out], HTE, HSZ.out, Lib.hid (ext_trans HX.out (ext_trans HX5.out extA))⟩
          · obtain rfl : k = n.deeds.length := by omega
            have HT7 := HT.out
            rw [List.take_of_length_le (Nat.le_refl _)] at HT7
            have HF := Lib.hid (show t = ⟨(noteB n).toArray⟩ by rw [HT7]; unfold noteB; simp)
            clear HT7 HT
            go_wp2_with fail
            go_ret
            exact ⟨rs HF.out, HXR.out⟩
end Go.Proofs.Ytiladkinndgeaaa
