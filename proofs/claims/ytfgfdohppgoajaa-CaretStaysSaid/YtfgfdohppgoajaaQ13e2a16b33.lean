/- Atoms that are put among atoms, by the program. -/
import Derived.Test.YtfgfdohppgoajaaQ4f41037d17
import Derived.Test.YtfgfdohppgoajaaQbabeb3fad8
import Derived.Test.YtfgfdohppgoajaaQ032f3a0a26
set_option linter.unusedVariables false
set_option linter.unusedSimpArgs false
namespace Go.Proofs.Ytfgfdohppgoajaa
open Go Go.RowKit Go.BigFrame Cp

theorem oat_at {e base : Nat} {F : Nat → Prop} {w : World} {a : Option Addr} {n c : Nat} {q : List At} (h : OSl RAt 3 e base F w (.slice a n c) q) {i : Nat} (hi : i < q.length) :
    ∃ g p d s ap cp, a = some ⟨g, 0, none⟩ ∧ base ≤ g ∧ g < w.heap.size ∧ q[i]? = some ((p, d), s) ∧
      w.cell? ⟨g, i * 3, none⟩ = some (.slice ap p.length cp) ∧ w.cell? ⟨g, i * 3 + 1, none⟩ = some (.int .i64 d) ∧ w.cell? ⟨g, i * 3 + 2, none⟩ = some (.int .u8 (s : UInt8).toNat) ∧ w.frozen? ⟨g, i * 3 + 2, none⟩ = false := by
  obtain ⟨g, x, cs, _, ha, hb, hs, hx, _, hr, ⟨v, rfl, h1, h2⟩, hf⟩ := osl_at h hi
  obtain ⟨ap, np, cp, rfl⟩ := h1.slice
  obtain ⟨rfl, _, _⟩ := h1.len
  obtain ⟨⟨p, d⟩, s⟩ := x
  exact ⟨g, p, d, s, ap, cp, ha, hb, hs, hx, by simpa using hr 0 _ rfl, by simpa [Nat.add_assoc] using hr 1 _ rfl, by simpa [Nat.add_assoc] using hr 2 _ rfl, hf _⟩
theorem put_sign {e base : Nat} {F : Nat → Prop} {w : World} {g n c : Nat} {q : List At} (h : OSl RAt 3 e base F w (.slice (some ⟨g, 0, none⟩) n c) q) {i : Nat} (hi : i < q.length) {m : Mk} {s t : UInt8} (he : q[i]? = some (m, s)) :
    OSl RAt 3 e base F (w.setCell ⟨g, i * 3 + 2, none⟩ (.int .u8 t.toNat)) (.slice (some ⟨g, 0, none⟩) n c) (q.set i (m, t)) := by
  refine osl_put gAt h hi (by omega) (fun G W cs y hy hr => ?_)
  rw [he] at hy
  have : (m, s) = y := by simpa using hy
  subst this
  obtain ⟨v, rfl, h1, h2⟩ := hr
  exact ⟨v, rfl, h1, h2⟩
theorem mn_val (x y : UInt8) : (if y.toNat < x.toNat then ((y.toNat : Nat) : Int) else ((x.toNat : Nat) : Int)) = (((mnS x y).toNat : Nat) : Int) := by
  unfold mnS
  by_cases h : y < x
  · rw [if_pos h, if_pos (UInt8.lt_iff_toNat_lt.1 h)]
  · rw [if_neg h, if_neg (fun h2 => h (UInt8.lt_iff_toNat_lt.2 h2))]
set_option maxRecDepth 100000 in
set_option maxHeartbeats 4000000 in
theorem merge_any {F1 F2 : Nat → Prop} {w : World} {v u : Value} {l m : List At} (h : RSl RAt 3 F1 w v l) (k : RSl RAt 3 F2 w u m) (hl : RightA l) (hm : RightA m) (hl3 : l.length ≤ 300) (hm3 : m.length ≤ 300) :
    Calls Try.prog 118 #[v, u] w (IsOwnA (mergeA l m) w) := by
  have HO1 := Lib.hid (fun (W : World) (hx : Ext w W) => ownAtoms_any (h.ext gAt hx) (by omega) (fun a ha => check_len (hl.2 a ha).1))
  have HO2 := Lib.hid (fun (W : World) (hx : Ext w W) => ownAtoms_any (k.ext gAt hx) (by omega) (fun a ha => check_len (hm.2 a ha).1))
  have HRL := Lib.hid hl
  have HRM := Lib.hid hm
  obtain ⟨a0, n0, c0, rfl⟩ := h.slice
  obtain ⟨a1, n1, c1, rfl⟩ := k.slice
  clear h k hl hm
  go_enter Try.func118, Try.ntmps118
  go_wp2_with (first
    | (go_at_call 108; (have HO1' := HO1); go_must ((with_reducible refine (HO1.out _ (by repeat (first | (with_reducible exact ext_refl _) | (with_reducible assumption) | (with_reducible refine ext_drew ?_) | (with_reducible refine ext_drewN ?_ _) | (with_reducible refine ext_alloc ?_ _) | (with_reducible refine ext_set ?_ (by first | omega | (simp <;> omega)) _) | (with_reducible refine ext_trans ?_ (by with_reducible assumption))))).mono ?_); rintro e w1 ⟨v1, rfl, hv1, hx1⟩; clear HO1; have HV1 := Lib.hid hv1; obtain ⟨a2, n2, c2, rfl⟩ := osl_slice hv1; have hz1 := hx1.size; have HB1' := Lib.hid (osl_lt hv1); clear hv1))
    | (go_at_call 108; go_must ((with_reducible refine (HO2.out _ (by repeat (first | (with_reducible exact ext_refl _) | (with_reducible assumption) | (with_reducible refine ext_drew ?_) | (with_reducible refine ext_drewN ?_ _) | (with_reducible refine ext_alloc ?_ _) | (with_reducible refine ext_set ?_ (by first | omega | (simp <;> omega)) _) | (with_reducible refine ext_trans ?_ (by with_reducible assumption))))).mono ?_); rintro e w2 ⟨v2, rfl, hv2, hx2⟩; obtain ⟨a3, n3, c3, rfl⟩ := osl_slice hv2; obtain rfl : n3 = m.length := (osl_len hv2).1; have hz2 := hx2.size; have HM2 := Lib.hid (RSl.more (G := fun j => w1.heap.size ≤ j ∧ j < w2.heap.size) gAt (fun j hj hlt => ⟨hj, hlt⟩) (osl_rsl gAt hv2 (G := fun j => w1.heap.size ≤ j) (fun j hj _ => hj) (fun j hj => hj))); clear hv2; have HV1x := Lib.hid (osl_ext gAt HV1.out hx2); clear HV1; have HV1 := HV1x; clear HV1x; have HB1 : Hid (∀ j, (Value.slice a2 n2 c2).ownBlock = some j → j < w1.heap.size ∨ w2.heap.size ≤ j) := Lib.hid (fun j hj => .inl (HB1'.out j hj).2))))
  go_loopw [5, 15] (fun ov iv wr => ∃ k : Nat, k ≤ m.length ∧ iv = .int .i64 k ∧ Hid (OSl RAt 3 50 w.heap.size (fun j => w.heap.size ≤ j) wr ov (mergeA l (m.take k))) ∧ Hid (∀ j, ov.ownBlock = some j → j < w1.heap.size ∨ w2.heap.size ≤ j) ∧ Hid (RSl RAt 3 (fun j => w1.heap.size ≤ j ∧ j < w2.heap.size) wr (.slice a3 m.length c3) m) ∧ Hid (w2.heap.size ≤ wr.heap.size) ∧ Ext w wr) (fun _ iv _ => m.length - (intOf iv).toNat)
  case atStart => exact ⟨0, Nat.zero_le _, rfl, Lib.hid HV1.out, HB1, HM2, Lib.hid (Nat.le_refl _), ext_trans hx1 hx2⟩
  case round =>
    obtain ⟨k, hk, rfl, HO, HB, HK, HS, hx⟩ := hrel
    have hzr := hx.size
    have HX := Lib.hid hx
    have hs2 := HS.out
    clear hx
    obtain ⟨a5, n5, c5, rfl⟩ := osl_slice HO.out
    by_cases hlt : k < m.length
    · obtain ⟨b, o, p, d, s, ap, cp, rfl, hb, ek, ick, hpp, y0, y1, y2⟩ := atm_at HK.out hlt
      have hra := HRM.out.2 _ (List.mem_of_getElem? ek)
      have HEK := Lib.hid (mergeA_take (l := l) ek)
      have HRQ := Lib.hid (mergeA_right (m := m.take k) HRL.out (fun a ha => HRM.out.2 a (List.mem_of_mem_take ha)))
      have hql : (mergeA l (m.take k)).length ≤ 600 := by have h1 := mergeA_len (m.take k) l; rw [List.length_take] at h1; omega
      have HOL := Lib.hid (osl_lt HO.out)
      have hnb : ¬ b = wr.heap.size := by omega
      have HIC := Lib.hid ick
      have HPP := Lib.hid hpp
      generalize mergeA l (m.take k) = q at *
      obtain rfl : n5 = q.length := (osl_len HO.out).1
      have HFD := Lib.hid (fun (W : World) (hx : Ext wr W) => findA_any (osl_rsl gAt (osl_ext gAt HO.out hx) (G := fun _ => True) (fun _ _ _ => trivial) (fun _ _ => trivial)) (rmk_of' (hpp.ext gStp hx) ick) HRQ.out.1 (by omega))
      clear ek ick hpp hra
      cases hh : hasM q (p, d) with
      | false =>
        have HPN := Lib.hid (putA_new (a := ((p, d), s)) HRQ.out.1 hh)
        have hpl := placeA_le q (p, d)
        rw [hh] at HFD
        simp only at HPN
        generalize placeA q (p, d) = i at *
        clear hh
        go_wp2_with (first
          | (go_at_call 54; go_must ((with_reducible refine (HFD.out _ (by repeat (first | (with_reducible exact ext_refl _) | (with_reducible assumption) | (with_reducible refine ext_drew ?_) | (with_reducible refine ext_drewN ?_ _) | (with_reducible refine ext_alloc ?_ _) | (with_reducible refine ext_set ?_ (by first | omega | (simp <;> omega)) _) | (with_reducible refine ext_trans ?_ (by with_reducible assumption))))).mono ?_); rintro e w4 ⟨rfl, hx4⟩; have hz4 := hx4.size; (try simp at hz4); have hb4 : wr.heap.size < w4.heap.size := (by omega); have q0 := (hx4.cells (wr.heap.size) (0) (by first | omega | (simp <;> omega))).trans (show _ = some (.slice ap p.length cp) by first | assumption | go_simp); have q1 := (hx4.cells (wr.heap.size) (1) (by first | omega | (simp <;> omega))).trans (show _ = some (.int .i64 d) by first | assumption | go_simp); have q2 := (hx4.cells (wr.heap.size) (2) (by first | omega | (simp <;> omega))).trans (show _ = some (.int .u8 s.toNat) by first | assumption | go_simp)))
          | (go_at_call 123; go_must ((with_reducible refine (insert_any (base := w.heap.size) (F := fun j => w.heap.size ≤ j) (G := fun j => (w1.heap.size ≤ j ∧ j < w2.heap.size)) (x := ((p, d), s)) (osl_ext gAt HO.out (by repeat (first | (with_reducible exact ext_refl _) | (with_reducible assumption) | (with_reducible refine ext_drew ?_) | (with_reducible refine ext_drewN ?_ _) | (with_reducible refine ext_alloc ?_ _) | (with_reducible refine ext_set ?_ (by first | omega | (simp <;> omega)) _) | (with_reducible refine ext_trans ?_ (by with_reducible assumption))))) (by omega) (by omega) (alloc_new' _ _) (rat_of (HPP.out.ext gStp (by repeat (first | (with_reducible exact ext_refl _) | (with_reducible assumption) | (with_reducible refine ext_drew ?_) | (with_reducible refine ext_drewN ?_ _) | (with_reducible refine ext_alloc ?_ _) | (with_reducible refine ext_set ?_ (by first | omega | (simp <;> omega)) _) | (with_reducible refine ext_trans ?_ (by with_reducible assumption))))) HIC.out) (fun j hj _ => ⟨(show w.heap.size ≤ j by omega), fun e => by have := HB.out j e.symm; omega⟩) (fun e => by have := (HOL.out _ e.symm).2; omega) (show w.heap.size ≤ _ by omega) (by first | omega | (simp <;> omega))).mono ?_); rintro e w5 ⟨v5, rfl, hv5, hg5, hat5⟩; obtain ⟨a6, n6, c6, rfl⟩ := osl_slice hv5; have hx5 : Ext w w5 := ext_grow (ext_trans HX.out (by repeat (first | (with_reducible exact ext_refl _) | (with_reducible assumption) | (with_reducible refine ext_drew ?_) | (with_reducible refine ext_drewN ?_ _) | (with_reducible refine ext_alloc ?_ _) | (with_reducible refine ext_set ?_ (by first | omega | (simp <;> omega)) _) | (with_reducible refine ext_trans ?_ (by with_reducible assumption))))) hg5 (fun j hj => (HOL.out j hj).1); have HK5 := Lib.hid (RSl.keep gAt ⟨hg5.size, fun j hj hlt => hg5.block j hlt (fun e => by obtain ⟨g1, g2⟩ := hj; have := HB.out j e.symm; omega)⟩ (HK.out.ext gAt (by repeat (first | (with_reducible exact ext_refl _) | (with_reducible assumption) | (with_reducible refine ext_drew ?_) | (with_reducible refine ext_drewN ?_ _) | (with_reducible refine ext_alloc ?_ _) | (with_reducible refine ext_set ?_ (by first | omega | (simp <;> omega)) _) | (with_reducible refine ext_trans ?_ (by with_reducible assumption)))))); have hs5 : w2.heap.size ≤ w5.heap.size := (by have := hg5.size; first | omega | (simp at this; omega)); have HB5 : Hid (∀ j, (Value.slice a6 n6 c6).ownBlock = some j → j < w1.heap.size ∨ w2.heap.size ≤ j) := Lib.hid (fun j hj => hat5.elim (fun h => HB.out j (h.symm.trans hj)) (fun h => .inr (by have e := Option.some.inj (h.symm.trans hj); first | omega | (simp at e; omega)))); have HV5 := Lib.hid hv5; clear hv5 hg5 hat5)))
        go_roundw
        case rel => exact ⟨k + 1, by omega, by go_num, Lib.hid (by rw [HEK.out, HPN.out]; exact HV5.out), HB5, HK5, Lib.hid hs5, hx5⟩
        case measure => simp [intOf]; omega
      | true =>
        obtain ⟨x, hx1', hx2', hx3'⟩ := putA_has (a := ((p, d), s)) HRQ.out.1 hh
        rw [hh] at HFD
        simp only at hx1' hx2' hx3'
        generalize placeA q (p, d) = i at *
        have hiq : i < q.length := (List.getElem?_eq_some_iff.1 hx1').1
        obtain ⟨g, p5, d5, s5, ap5, cp5, rfl, hbg, hgs, ex5, z0, z1, z2, zf⟩ := oat_at HO.out hiq
        obtain rfl : x = ((p5, d5), s5) := by rw [ex5] at hx1'; exact (Option.some.inj hx1').symm
        have HPT := Lib.hid (fun (W : World) (hx : Ext wr W) => put_sign (t := mnS s5 s) (osl_ext gAt HO.out hx) hiq ex5)
        have HPE := Lib.hid hx3'
        have hmn := mn_val s5 s
        have hgb := HB.out g rfl
        have ii0 : (0 : Int) ≤ (i : Int) := Int.natCast_nonneg i
        have ii1 : (i : Int) < (q.length : Int) := Int.ofNat_lt.2 hiq
        have hgn : ¬ g = wr.heap.size := by omega
        have hgn' : ¬ wr.heap.size = g := by omega
        clear hh hx1' hx2' hx3' ex5
        go_wp2_with (first
          | (go_at_call 54; go_must ((with_reducible refine (HFD.out _ (by repeat (first | (with_reducible exact ext_refl _) | (with_reducible assumption) | (with_reducible refine ext_drew ?_) | (with_reducible refine ext_drewN ?_ _) | (with_reducible refine ext_alloc ?_ _) | (with_reducible refine ext_set ?_ (by first | omega | (simp <;> omega)) _) | (with_reducible refine ext_trans ?_ (by with_reducible assumption))))).mono ?_); rintro e w4 ⟨rfl, hx4⟩; have hz4 := hx4.size; (try simp at hz4); have hb4 : wr.heap.size < w4.heap.size := (by omega); have q0 := (hx4.cells (wr.heap.size) (0) (by first | omega | (simp <;> omega))).trans (show _ = some (.slice ap p.length cp) by first | assumption | go_simp); have q1 := (hx4.cells (wr.heap.size) (1) (by first | omega | (simp <;> omega))).trans (show _ = some (.int .i64 d) by first | assumption | go_simp); have q2 := (hx4.cells (wr.heap.size) (2) (by first | omega | (simp <;> omega))).trans (show _ = some (.int .u8 s.toNat) by first | assumption | go_simp); have q3 := (hx4.cells (g) (i * 3 + 2) (by first | omega | (simp <;> omega))).trans (show _ = some (.int .u8 s5.toNat) by first | assumption | go_simp); have qf0 := (hx4.frz (g) (i * 3 + 2) (by first | omega | (simp <;> omega))).trans (show _ = false by first | assumption | go_simp))))
        refine wp_region_tail 10 fol (by kernel_rfl) (fun W hW => ?_)
        subst hW
        simp only [List.take_succ_cons, List.take_zero, List.drop_succ_cons, List.drop_zero]
        repeat (go_big_quiet_step (fail))
        refine wpQuiet_nil ?_
        go_wp2_with fail
        go_roundw
        case rel =>
          (try rw [hmn])
          have hw4 : Ext wr w4 := (by repeat (first | (with_reducible exact ext_refl _) | (with_reducible assumption) | (with_reducible refine ext_drew ?_) | (with_reducible refine ext_drewN ?_ _) | (with_reducible refine ext_alloc ?_ _) | (with_reducible refine ext_set ?_ (by first | omega | (simp <;> omega)) _) | (with_reducible refine ext_trans ?_ (by with_reducible assumption))))
          exact ⟨k + 1, by omega, by go_num, Lib.hid (osl_ext gAt (by rw [HEK.out, HPE.out]; exact HPT.out _ hw4) (ext_drew (ext_refl _))), Lib.hid (fun j hj => HB.out j hj), Lib.hid (RSl.keep gAt (keeps_drew (keeps_set keeps_refl (fun _ (hj : w1.heap.size ≤ g ∧ g < w2.heap.size) => by omega) _)) (HK.out.ext gAt hw4)), Lib.hid (by have := hw4.size; simp; omega), ext_drew (ext_set (ext_trans HX.out hw4) hbg _)⟩
        case measure => simp [intOf]; omega
    · have hkl : k = m.length := by omega
      subst hkl
      have HF := Lib.hid (show OSl RAt 3 50 w.heap.size (fun j => w.heap.size ≤ j) wr (.slice a5 n5 c5) (mergeA l m) by have := HO.out; rwa [List.take_of_length_le (Nat.le_refl _)] at this)
      go_wp2
      go_ret
      exact ⟨_, rfl, HF.out, HX.out⟩
end Go.Proofs.Ytfgfdohppgoajaa
