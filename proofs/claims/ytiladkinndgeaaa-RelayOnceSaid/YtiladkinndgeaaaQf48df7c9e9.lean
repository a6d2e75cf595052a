/- How many notes of each site: a map. What is wrong with a relay, by the program. -/
import Derived.Test.YtiladkinndgeaaaQd2ed7f145a
import Derived.Test.YtiladkinndgeaaaQe4d63bfa69
import Derived.Maps.OwnOps
import Derived.Maps.Views
import Derived.Deep.RegionLaw
import Derived.Deep.Cut
set_option linter.unusedVariables false
set_option linter.unusedSimpArgs false
namespace Go.Proofs.Ytiladkinndgeaaa
open Go Go.RowKit Go.BigFrame Cp

theorem lawI : Go.Maps.Keyed Try.prog 3 := Go.Maps.int_keyed Try.underlying3
theorem zeroI (w : World) : (zeroValue 3).run Try.prog w = .ok (.int .i64 0) w := by kernel_rfl
/-- a map as read holds at each site how many notes there are -/
def MapHas (D : DataW Unit) (l : List No) : Prop := Go.Maps.IsMap D ∧ ∀ j : Int, D.atKey (.int .i64 j) (.lit (.int .i64 0)) = .lit (.int .i64 (howN l j))
abbrev OwnM (W : World) (b k : Nat) (D : DataW Unit) : Prop := W.ownsMap Try.prog 3 (plainElem Try.prog 3) b k D
theorem mapHas_nil : MapHas (.map []) [] := ⟨Go.Maps.isMap_empty, fun j => rfl⟩
theorem ownM_ext {W W' : World} {b k : Nat} {D : DataW Unit} (h : OwnM W b k D) (hx : Ext W W') : OwnM W' b k D := by
  obtain ⟨es, clock, hb, F, hs, hD⟩ := h
  exact ⟨es, clock, (hx.below.block b (Array.getElem?_eq_some_iff.1 hb).1).trans hb, F, hs, hD⟩
theorem mapHas_step {D : DataW Unit} {l : List No} {n : No} {c : Int} (h : MapHas D l) (hc : D.atKey (.int .i64 n.site) (.lit (.int .i64 0)) = .lit (.int .i64 c)) (hl : l.length ≤ 1000) :
    c = howN l n.site ∧ MapHas (D.put (.int .i64 n.site) (.lit (.int .i64 (wrap64 (c + 1))))) (l ++ [n]) := by
  have e : c = howN l n.site := by
    have := hc.symm.trans (h.2 n.site)
    injection this with this
    injection this
  have hle := howN_len l n.site
  refine ⟨e, h.1.put _ _, fun j => ?_⟩
  rw [howN_snoc]
  by_cases hj : n.site = j
  · subst hj
    rw [Go.Maps.atKey_put_same h.1 (by simp [WideAt.IsKeyLit]), if_pos rfl, e, IntWalk.wrap64_in _ (by omega)]
    rfl
  · rw [Go.Maps.atKey_put_other (fun e => hj (by injection e with _ e; exact e.symm)), h.2 j, if_neg hj]
    rfl
set_option maxRecDepth 100000 in
set_option maxHeartbeats 4000000 in
theorem numbers_any {F : Nat → Prop} {w : World} {v : Value} {l : List No} (h : RSl RNo 4 F w v l) (hl : l.length ≤ 1000) :
    Calls Try.prog 65 #[v] w fun e w' => ∃ b D, e = .returned (.map (some b)) ∧ w.heap.size ≤ b ∧ OwnM w' b l.length D ∧ MapHas D l ∧ Ext w w' := by
  have HL := Lib.hid (fun (W : World) (hx : Ext w W) => h.ext gNo hx)
  obtain ⟨a0, n0, c0, rfl⟩ := h.slice
  obtain rfl : n0 = l.length := h.len.1
  clear h
  have hmm := @run_makeMap Try.prog
  go_enter Try.func65, Try.ntmps65
  go_wp2_with fail
  go_loopw [9] (fun iv wr => ∃ (k : Nat) (D : DataW Unit), k ≤ l.length ∧ iv = .int .i64 k ∧ Hid (OwnM wr w.heap.size k D) ∧ Hid (MapHas D (l.take k)) ∧ Hid (Ext w wr) ∧ w.heap.size < wr.heap.size) (fun iv _ => l.length - (intOf iv).toNat)
  case atStart => exact ⟨0, _, Nat.zero_le _, rfl, Lib.hid (World.ownsMap_made _ _ _ _), Lib.hid mapHas_nil, Lib.hid extA, by simp⟩
  case round =>
    obtain ⟨k, D, hk, rfl, HM, HS, HX, hwr⟩ := hrel
    clear hmm
    by_cases hlt : k < l.length
    · obtain ⟨b, o, d, a1, n1, c1, a2, n2, c2, rfl, hb, ek, hd, y0, y1, y2, y3⟩ := note_at (HL.out wr HX.out) hlt
      have i1 : I64 d.site := by obtain ⟨_, _, _, i, _⟩ := hd; exact i
      have HWF := WalkArith.wf_i64 i1
      have hkl : (l.take k).length ≤ 1000 := by rw [List.length_take]; omega
      have HEK := Lib.hid (take_snocG ek)
      have hbr : b < wr.heap.size := hb
      have HST := Lib.hid (fun c hc => mapHas_step (n := d) (c := c) HS.out hc hkl)
      generalize d.site = st at *
      clear ek hd i1
      go_wp2_with (first | (at_lookup; refine wpList_lookup_own_int _ rfl _ _ 86 rfl 3 3 .i64 lawI Try.underlying86 Try.underlying3 (zeroI _) (w.heap.size) k _ rfl (ownM_ext HM.out extA) _ _ rfl (Go.Maps.keyOf_int_mk Try.underlying3 HWF) ?_; intro c1 hat1 hwc1) | (at_mapUpdate; refine wpList_mapUpdate_own _ rfl _ _ _ 86 rfl 3 3 lawI Try.underlying86 _ (w.heap.size) k _ rfl (ownM_ext HM.out extA) (by unfold maxLen; omega) _ _ _ rfl rfl (Go.Maps.keyOf_int_mk Try.underlying3 HWF) _ [] (plainElem_int Try.underlying3 (wrap64_wf _)) ?_; intro w5 hown5 hg5; have HX5 := Lib.hid (show Ext w w5 from ext_grown (ext_trans HX.out extA) hg5 (fun j hj => by cases hj; exact Nat.le_refl _)); have hl5 : w.heap.size < w5.heap.size := Nat.lt_of_lt_of_le (by first | omega | (simp <;> omega)) hg5.size; clear hg5))
      go_roundw
      case rel => exact ⟨k + 1, _, by omega, by go_num, Lib.hid hown5, Lib.hid (by rw [HEK.out]; exact (HST.out _ hat1).2), HX5, hl5⟩
      case measure => simp [intOf]; omega
    · obtain rfl : k = l.length := by omega
      rw [List.take_of_length_le (Nat.le_refl _)] at HS
      go_wp2_with fail
      go_ret
      exact ⟨_, D, rfl, Nat.le_refl _, HM.out, HS.out, HX.out⟩
end Go.Proofs.Ytiladkinndgeaaa
/- What is wrong with a relay, by the program. -/
namespace Go.Proofs.Ytiladkinndgeaaa
open Go Go.RowKit Go.BigFrame Cp

theorem look_two {D : DataW Unit} {l : List No} {n : No} {c1 c2 : Int} (h : MapHas D l) (h1 : D.atKey (.int .i64 n.site) (.lit (.int .i64 0)) = .lit (.int .i64 c1)) (hl : l.length ≤ 1000)
    (h2 : (D.put (.int .i64 n.site) (.lit (.int .i64 (wrap64 (c1 + 1))))).atKey (.int .i64 n.site) (.lit (.int .i64 0)) = .lit (.int .i64 c2)) : c2 = (howN l n.site : Int) + 1 := by
  obtain ⟨_, hm⟩ := mapHas_step h h1 hl
  have := h2.symm.trans (hm.2 n.site)
  injection this with this
  injection this with _ e
  rw [e, howN_snoc, if_pos rfl]
  rfl
theorem rt2 {a b : Int} {w w' : World} (h : a = b) (hx : Ext w w') : Ending.returned (.int .i64 a) = .returned (.int .i64 b) ∧ Ext w w' := ⟨by rw [h], hx⟩
set_option maxRecDepth 100000 in
set_option maxHeartbeats 4000000 in
theorem checkRelayP_any {F : Nat → Prop} {w : World} {v : Value} {l : List No} (h : RSl RNo 4 F w v l) :
    Calls Try.prog 20 #[.agg #[v]] w fun e w' => e = .returned (.int .i64 (checkLog l)) ∧ Ext w w' := by
  have HL := Lib.hid (fun (W : World) (hx : Ext w W) => h.ext gNo hx)
  obtain ⟨a0, n0, c0, rfl⟩ := h.slice
  obtain rfl : n0 = l.length := h.len.1
  clear h
  have hmm := @run_makeMap Try.prog
  by_cases h3 : 300 < l.length
  · have e3 : checkLog l = 2 := by unfold checkLog; rw [if_pos h3]
    rw [e3]
    have k3 : decide ((300 : Int) < (l.length : Int)) = true := decide_eq_true (by omega)
    clear hmm e3
    go_enter Try.func20, Try.ntmps20
    go_wp2_with fail
    go_ret
    exact ⟨rfl, extA⟩
  have e3 : checkLog l = checkLF [] l := by unfold checkLog; rw [if_neg h3]
  have k3 : decide ((300 : Int) < (l.length : Int)) = false := decide_eq_false (by omega)
  have E3 := Lib.hid e3
  clear e3
  go_enter Try.func20, Try.ntmps20
  go_wp2_with fail
  refine wp_name (fun wb ewb => ?_)
  have b0 : wb.cell? ⟨w.heap.size, 0, none⟩ = some (.slice a0 l.length c0) := by rw [ewb]; go_simp
  have HXB := Lib.hid (show Ext w wb by rw [ewb]; exact extA)
  have HMB := Lib.hid (show OwnM wb (w.heap.size + 1) 0 (.map []) by rw [ewb, show w.heap.size + 1 = (w.alloc (Obj.cells #[Value.slice a0 l.length c0] 38)).heap.size by simp]; exact World.ownsMap_made (w.alloc _) _ _ _)
  have hbs : w.heap.size + 1 < wb.heap.size := HMB.out.lt
  clear ewb
  go_loopw [15] (fun iv wr => ∃ (k : Nat) (D : DataW Unit), k ≤ l.length ∧ iv = .int .i64 k ∧ Hid (OwnM wr (w.heap.size + 1) k D) ∧ Hid (MapHas D (l.take k)) ∧ Hid (checkLF (l.take k) (l.drop k) = checkLog l) ∧ Hid (Ext w wr) ∧ w.heap.size + 1 < wr.heap.size) (fun iv _ => l.length - (intOf iv).toNat)
  case atStart => exact ⟨0, _, Nat.zero_le _, rfl, HMB, Lib.hid mapHas_nil, Lib.hid E3.out.symm, HXB, hbs⟩
  case round =>
    obtain ⟨k, D, hk, rfl, HM, HS, HC, HX, hwr⟩ := hrel
    clear hmm b0
    by_cases hlt : k < l.length
    · obtain ⟨b, o, d, a1, n1, c1, a2, n2, c2, rfl, hb, ek, hd, y0, y1, y2, y3⟩ := note_at (HL.out wr HX.out) hlt
      have HCK := Lib.hid (fun (W : World) (hx : Ext wr W) => checkNoteP_any (gNo.ext hd hx))
      have i1 : I64 d.site := by obtain ⟨_, _, _, i, _⟩ := hd; exact i
      have HWF := WalkArith.wf_i64 i1
      have hkl : (l.take k).length ≤ 1000 := by rw [List.length_take]; omega
      have HEK := Lib.hid (take_snocG ek)
      have hbr : b < wr.heap.size := hb
      have hcs := HC.out
      rw [checkLF_step ek] at hcs
      have HST := Lib.hid (fun c hc => mapHas_step (n := d) (c := c) HS.out hc hkl)
      have HLT := Lib.hid (fun c1 c2 h1 h2 => look_two (n := d) (c1 := c1) (c2 := c2) HS.out h1 hkl h2)
      clear ek hd i1
      by_cases hc : checkN d = 0
      · rw [hc] at HCK
        rw [if_neg (by simpa using hc)] at hcs
        by_cases hn : d.number = (howN (l.take k) d.site : Int) + 1
        · rw [if_neg (by simpa using hn)] at hcs
          rw [← hn] at HLT
          have HCS := Lib.hid hcs
          clear hcs hc hn
          generalize d.site = st at *
          generalize d.number = nu at *
          go_wp2_with (first | (go_at_call 13; go_must ((with_reducible refine (HCK.out _ extA).mono ?_); rintro e w2 ⟨rfl, hx2⟩; have hz2 := hx2.size; (try simp at hz2); have hb2 : wr.heap.size < w2.heap.size := (by omega); have x0 := (hx2.cells (wr.heap.size) 0 (by first | omega | (simp <;> omega))).trans (show _ = some (.int .i64 st) by first | (with_reducible assumption) | go_simp); have x1 := (hx2.cells (wr.heap.size) 1 (by first | omega | (simp <;> omega))).trans (show _ = some (.int .i64 nu) by first | (with_reducible assumption) | go_simp); have HX2 := Lib.hid (show Ext w w2 from ext_trans (ext_trans HX.out extA) hx2); have HX2r := Lib.hid (show Ext wr w2 from ext_trans extA hx2))) | (at_lookup; refine wpList_lookup_own_int _ rfl _ _ 86 rfl 3 3 .i64 lawI Try.underlying86 Try.underlying3 (zeroI _) (w.heap.size + 1) k _ rfl (ownM_ext HM.out (ext_trans HX2r.out extA)) _ _ rfl (Go.Maps.keyOf_int_mk Try.underlying3 HWF) ?_; intro c1 hat1 hwc1) | (at_mapUpdate; refine wpList_mapUpdate_own _ rfl _ _ _ 86 rfl 3 3 lawI Try.underlying86 _ (w.heap.size + 1) k _ rfl (ownM_ext HM.out (ext_trans HX2r.out extA)) (by unfold maxLen; omega) _ _ _ rfl rfl (Go.Maps.keyOf_int_mk Try.underlying3 HWF) _ [] (plainElem_int Try.underlying3 (wrap64_wf _)) ?_; intro w5 hown5 hg5; have hgr := hg5.block wr.heap.size (by first | omega | (simp <;> omega)) (fun e => by injection e with e; omega); have z0 : w5.cell? ⟨wr.heap.size, 0, none⟩ = some (.int .i64 st) := (World.cell?_of_block (a := ⟨wr.heap.size, 0, none⟩) hgr).trans (by go_simp); have z1 : w5.cell? ⟨wr.heap.size, 1, none⟩ = some (.int .i64 nu) := (World.cell?_of_block (a := ⟨wr.heap.size, 1, none⟩) hgr).trans (by go_simp); have HX5 := Lib.hid (show Ext w w5 from ext_grown (ext_trans HX2.out extA) hg5 (fun j hj => by cases hj; exact Nat.le_succ _)); have hl5 : w.heap.size + 1 < w5.heap.size := hown5.lt; clear hg5 hgr HM) | (at_lookup; refine wpList_lookup_own_int _ rfl _ _ 86 rfl 3 3 .i64 lawI Try.underlying86 Try.underlying3 (zeroI _) (w.heap.size + 1) (k + 1) _ rfl hown5 _ _ rfl (Go.Maps.keyOf_int_mk Try.underlying3 HWF) ?_; intro c2 hat2 hwc2; obtain rfl : nu = c2 := (HLT.out _ _ hat1 hat2).symm))
          go_roundw
          case rel => exact ⟨k + 1, _, by omega, by go_num, Lib.hid hown5, Lib.hid (by rw [HEK.out]; exact (HST.out _ hat1).2), HCS, HX5, hl5⟩
          case measure => simp [intOf]; omega
        · rw [if_pos hn] at hcs
          have HNE := Lib.hid (fun c1 c2 h1 h2 e => hn ((show d.number = c2 from e).trans (HLT.out c1 c2 h1 h2)))
          have HCS := Lib.hid hcs
          clear hcs hc hn
          generalize d.site = st at *
          generalize d.number = nu at *
          go_wp2_with (first | (go_at_call 13; go_must ((with_reducible refine (HCK.out _ extA).mono ?_); rintro e w2 ⟨rfl, hx2⟩; have hz2 := hx2.size; (try simp at hz2); have hb2 : wr.heap.size < w2.heap.size := (by omega); have x0 := (hx2.cells (wr.heap.size) 0 (by first | omega | (simp <;> omega))).trans (show _ = some (.int .i64 st) by first | (with_reducible assumption) | go_simp); have x1 := (hx2.cells (wr.heap.size) 1 (by first | omega | (simp <;> omega))).trans (show _ = some (.int .i64 nu) by first | (with_reducible assumption) | go_simp); have HX2 := Lib.hid (show Ext w w2 from ext_trans (ext_trans HX.out extA) hx2); have HX2r := Lib.hid (show Ext wr w2 from ext_trans extA hx2))) | (at_lookup; refine wpList_lookup_own_int _ rfl _ _ 86 rfl 3 3 .i64 lawI Try.underlying86 Try.underlying3 (zeroI _) (w.heap.size + 1) k _ rfl (ownM_ext HM.out (ext_trans HX2r.out extA)) _ _ rfl (Go.Maps.keyOf_int_mk Try.underlying3 HWF) ?_; intro c1 hat1 hwc1) | (at_mapUpdate; refine wpList_mapUpdate_own _ rfl _ _ _ 86 rfl 3 3 lawI Try.underlying86 _ (w.heap.size + 1) k _ rfl (ownM_ext HM.out (ext_trans HX2r.out extA)) (by unfold maxLen; omega) _ _ _ rfl rfl (Go.Maps.keyOf_int_mk Try.underlying3 HWF) _ [] (plainElem_int Try.underlying3 (wrap64_wf _)) ?_; intro w5 hown5 hg5; have hgr := hg5.block wr.heap.size (by first | omega | (simp <;> omega)) (fun e => by injection e with e; omega); have z0 : w5.cell? ⟨wr.heap.size, 0, none⟩ = some (.int .i64 st) := (World.cell?_of_block (a := ⟨wr.heap.size, 0, none⟩) hgr).trans (by go_simp); have z1 : w5.cell? ⟨wr.heap.size, 1, none⟩ = some (.int .i64 nu) := (World.cell?_of_block (a := ⟨wr.heap.size, 1, none⟩) hgr).trans (by go_simp); have HX5 := Lib.hid (show Ext w w5 from ext_grown (ext_trans HX2.out extA) hg5 (fun j hj => by cases hj; exact Nat.le_succ _)); have hl5 : w.heap.size + 1 < w5.heap.size := hown5.lt; clear hg5 hgr HM) | (at_lookup; refine wpList_lookup_own_int _ rfl _ _ 86 rfl 3 3 .i64 lawI Try.underlying86 Try.underlying3 (zeroI _) (w.heap.size + 1) (k + 1) _ rfl hown5 _ _ rfl (Go.Maps.keyOf_int_mk Try.underlying3 HWF) ?_; intro c2 hat2 hwc2; have t9 : (nu != c2) = true := (by simpa using HNE.out _ _ hat1 hat2)))
          go_ret
          exact rt2 HCS.out HX5.out
      · rw [if_pos hc] at hcs
        have t1 : (checkN d != 0) = true := by simpa using hc
        have HCS := Lib.hid hcs
        clear hcs hc HLT HST
        generalize checkN d = cd at *
        generalize d.site = st at *
        generalize d.number = nu at *
        go_wp2_with (first | (go_at_call 13; go_must ((with_reducible refine (HCK.out _ extA).mono ?_); rintro e w2 ⟨rfl, hx2⟩; have hz2 := hx2.size; (try simp at hz2); have hb2 : wr.heap.size < w2.heap.size := (by omega); have x0 := (hx2.cells (wr.heap.size) 0 (by first | omega | (simp <;> omega))).trans (show _ = some (.int .i64 st) by first | (with_reducible assumption) | go_simp); have x1 := (hx2.cells (wr.heap.size) 1 (by first | omega | (simp <;> omega))).trans (show _ = some (.int .i64 nu) by first | (with_reducible assumption) | go_simp); have HX2 := Lib.hid (show Ext w w2 from ext_trans (ext_trans HX.out extA) hx2); have HX2r := Lib.hid (show Ext wr w2 from ext_trans extA hx2))))
        go_ret
        exact rt2 HCS.out HX2.out
    · obtain rfl : k = l.length := by omega
      have hce := HC.out
      rw [checkLF_end] at hce
      have HCE := Lib.hid hce
      clear hce
      go_wp2_with fail
      go_ret
      exact rt2 HCE.out HX.out
end Go.Proofs.Ytiladkinndgeaaa
/- A relay of one's own; a note more. -/
namespace Go.Proofs.Ytiladkinndgeaaa
open Go Go.RowKit Go.BigFrame Cp

theorem osl_moreG {α : Type} {R : Rd α} (g : Cp.Good R) {sz e base : Nat} {F G : Nat → Prop} {w : World} {v : Value} {l : List α} (h : OSl R sz e base F w v l) (hG : ∀ k, F k → k < w.heap.size → some k ≠ v.ownBlock → G k) : OSl R sz e base G w v l := by
  obtain ⟨xs, h1, h2⟩ := h
  exact ⟨xs, h1, chunks_more g (fun k hk hl => ⟨hG k hk.1 hl hk.2, hk.2⟩) h2⟩
/-- a relay of one's own -/
def IsOwnR (l : List No) (w : World) (e : Ending) (w' : World) : Prop := ∃ u, e = .returned (.agg #[u]) ∧ OSl RNo 4 25 w.heap.size (fun j => w.heap.size ≤ j) w' u l ∧ Ext w w'
set_option maxRecDepth 100000 in
set_option maxHeartbeats 4000000 in
theorem ownRelay_any {F : Nat → Prop} {w : World} {v : Value} {l : List No} (h : RSl RNo 4 F w v l) (hl : l.length ≤ 1000) (hn : ∀ n ∈ l, checkN n = 0) :
    Calls Try.prog 46 #[.agg #[v]] w (IsOwnR l w) := by
  have HO := Lib.hid (fun (W : World) (hx : Ext w W) => ownsNotes_any (h.ext gNo hx) hl hn)
  obtain ⟨a0, n0, c0, rfl⟩ := h.slice
  clear h hn
  go_enter Try.func46, Try.ntmps46
  go_wp2_with (first | (go_at_call 48; go_must ((with_reducible refine (HO.out _ extA).mono ?_); rintro e w3 ⟨v3, rfl, hv3, hx3⟩; obtain ⟨a3, n3, c3, rfl⟩ := osl_slice hv3; have HL3 := Lib.hid (osl_lt hv3); have HV3 := Lib.hid hv3; have hz3 := hx3.size; (try simp at hz3); have r0 := (hx3.cells (w.heap.size + 1) 0 (by first | omega | (simp <;> omega))).trans (show _ = some (.slice none 0 0) by first | (with_reducible assumption) | go_simp); have rf := (hx3.frz (w.heap.size + 1) 0 (by first | omega | (simp <;> omega))).trans (show _ = false by first | (with_reducible assumption) | go_simp); have hb3 : w.heap.size + 1 < w3.heap.size := (by omega); clear hv3)))
  have hs0 : (w3.setCell ⟨w.heap.size + 1, 0, none⟩ (.slice a3 n3 c3)).cell? ⟨w.heap.size + 1, 0, none⟩ = some (.slice a3 n3 c3) := World.cell?_setCell_same _ _ _ r0
  refine bodyPost_ret (v := .agg #[.slice a3 n3 c3]) (by simp [results, Try.results46, go_sem, hs0]) rfl ⟨_, rfl, ?_, ?_⟩
  · refine osl_moreG gNo (osl_base (by first | omega | (simp <;> omega)) (osl_keep gNo HV3.out (keeps_set keeps_refl (by intro _ h; have h' := no_ownG (B := w.heap.size + 1 + 1) (fun k hk => by have := (HL3.out k hk).1; simp at this; omega) (Nat.lt_succ_self _) (h.imp (fun h => by simp at h; omega) id); exact h') _))) (fun j hj _ _ => ?_)
    simp at hj
    show w.heap.size ≤ j
    omega
  · exact ext_set (ext_trans extA hx3) (by show w.heap.size ≤ w.heap.size + 1; omega) _
end Go.Proofs.Ytiladkinndgeaaa
