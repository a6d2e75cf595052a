/- How many notes of a site, what is wrong with a relay: by the document. -/
import Derived.Test.YtiladkinndgeaaaQf48df7c9e9
import Derived.Test.YtiladkinndgeaaaQe4d63bfa69
import Derived.Test.YtiladkinndgeaaaQ3f60f4144e
import Derived.Test.YtiladkinndgeaaaQf69f251b3b
import Derived.Deep.RegionHeld3
import Derived.Deep.RegionLaw
import Derived.Deep.Cut
set_option linter.unusedVariables false
set_option linter.unusedSimpArgs false
namespace Go.Proofs.Ytiladkinndgeaaa
open Go Go.RowKit Go.BigFrame Cp

theorem ret_int {a b : Int} {w w' : World} (h : a = b) (hx : Ext w w') : Ending.returned (.int .i64 a) = .returned (.int .i64 b) ∧ Ext w w' := ⟨by rw [h], hx⟩
theorem wrap_nat {n : Nat} (h : n ≤ 1000) : wrap64 ((n : Int) + 1) = ((n + 1 : Nat) : Int) := by rw [IntWalk.wrap64_in _ (by omega)]; rfl
set_option maxRecDepth 100000 in
set_option maxHeartbeats 4000000 in
theorem howMany_any {F : Nat → Prop} {w : World} {v : Value} {l : List No} (site : Int) (h : RSl RNo 4 F w v l) (hl : l.length ≤ 1000) :
    Calls Try.prog 18 #[v, .int .i64 site] w fun e w' => e = .returned (.int .i64 (howN l site)) ∧ Ext w w' := by
  have HL := Lib.hid (fun (W : World) (hx : Ext w W) => h.ext gNo hx)
  obtain ⟨a0, n0, c0, rfl⟩ := h.slice
  obtain rfl : n0 = l.length := h.len.1
  clear h
  go_enter Try.func18, Try.ntmps18
  go_wp2_with fail
  go_loopw [5, 6] (fun ov iv wr => ∃ (k h : Nat), k ≤ l.length ∧ h ≤ k ∧ iv = .int .i64 k ∧ ov = .int .i64 h ∧ Hid (howN (l.take k) site = h) ∧ Hid (Ext w wr)) (fun _ iv _ => l.length - (intOf iv).toNat)
  case atStart => exact ⟨0, 0, Nat.zero_le _, Nat.le_refl _, rfl, rfl, Lib.hid rfl, Lib.hid (ext_refl _)⟩
  case round =>
    obtain ⟨k, h, hk, hhk, rfl, rfl, HH, HX⟩ := hrel
    by_cases hlt : k < l.length
    · obtain ⟨b, o, d, a1, n1, c1, a2, n2, c2, rfl, hb, ek, hd, y0, y1, y2, y3⟩ := note_at (HL.out wr HX.out) hlt
      have HS := Lib.hid (howN_take ek site)
      clear ek hd
      by_cases hs : d.site = site
      · have t1 : (d.site == site) = true := by simpa using hs
        have HP := Lib.hid hs
        generalize d.site = st at *
        clear hs
        go_wp2_with fail
        go_roundw
        case rel => exact ⟨k + 1, h + 1, by omega, by omega, by go_num, by go_num, Lib.hid (by rw [HS.out, HH.out, if_pos HP.out]), Lib.hid (ext_trans HX.out extA)⟩
        case measure => simp [intOf]; omega
      · have t1 : (d.site == site) = false := by simpa using hs
        have HP := Lib.hid hs
        generalize d.site = st at *
        clear hs
        go_wp2_with fail
        go_roundw
        case rel => exact ⟨k + 1, h, by omega, by omega, by go_num, rfl, Lib.hid (by rw [HS.out, HH.out, if_neg HP.out]; rfl), Lib.hid (ext_trans HX.out extA)⟩
        case measure => simp [intOf]; omega
    · obtain rfl : k = l.length := by omega
      have HF := Lib.hid (show (h : Int) = howN l site by have := HH.out; rw [List.take_of_length_le (Nat.le_refl _)] at this; rw [this])
      go_wp2_with fail
      go_ret
      exact ret_int HF.out HX.out
end Go.Proofs.Ytiladkinndgeaaa
/- A note more, to a relay of one's own. -/
namespace Go.Proofs.Ytiladkinndgeaaa
open Go Go.RowKit Go.BigFrame Cp

def addE (l : List No) (n : No) : Int := if (howN l n.site : Int) + 1 < n.number then 4 else if n.number = (howN l n.site : Int) + 1 ∧ l.length = 300 then 2 else 0
def addB (l : List No) (n : No) : Bool := decide (n.number = (howN l n.site : Int) + 1) && decide (l.length ≠ 300)
def addV (l : List No) (n : No) : List No := if addB l n = true then l ++ [n] else l
/-- a box that holds notes of one's own, and what was there ahead of it is as it was -/
def IsAdd (l : List No) (n : No) (b B : Nat) (w : World) (e : Ending) (w' : World) : Prop :=
  ∃ u, e = .returned (.tuple #[.bool (addB l n), .int .i64 (addE l n)]) ∧ w'.cell? ⟨b, 0, none⟩ = some u ∧ OSl RNo 4 25 B (fun j => B ≤ j ∧ j ≠ b) w' u (addV l n) ∧ ∀ a : World, Ext a w → a.heap.size ≤ b → a.heap.size ≤ B → Ext a w'
theorem no_ownH {b B : Nat} {v : Value} (hv : ∀ k, v.ownBlock = some k → k ≠ b) (h : (B ≤ b ∧ b ≠ b) ∨ some b = v.ownBlock) : False := by
  rcases h with h | h
  · exact h.2 rfl
  · exact hv b h.symm rfl
theorem own_step {b k N : Nat} {v v' : Value} (hv : ∀ k, v.ownBlock = some k → k ≠ b) (h : v'.ownBlock = v.ownBlock ∨ v'.ownBlock = some N) (hk : v'.ownBlock = some k) (hN : b < N) : k ≠ b := by
  rcases h with h | h
  · exact hv k (h.symm.trans hk)
  · rw [h] at hk; injection hk with hk; omega
theorem add_same {l : List No} {n : No} {b B : Nat} {er : Int} {w w' : World} {u : Value} (hB : addB l n = false) (hE : addE l n = er) (hc : w'.cell? ⟨b, 0, none⟩ = some u) (ho : OSl RNo 4 25 B (fun j => B ≤ j ∧ j ≠ b) w u l) (hx : Ext w w') :
    IsAdd l n b B w (.returned (.tuple #[.bool false, .int .i64 er])) w' := by
  refine ⟨u, by rw [hB, hE], hc, ?_, fun a ha _ _ => ext_trans ha hx⟩
  unfold addV
  rw [hB]
  exact osl_ext gNo ho hx
set_option maxRecDepth 100000 in
set_option maxHeartbeats 4000000 in
theorem add_any {F : Nat → Prop} {w : World} {b B : Nat} {u : Value} {cs : List Value} {l : List No} {n : No} (hc : w.cell? ⟨b, 0, none⟩ = some u) (hf : w.frozen? ⟨b, 0, none⟩ = false) (ho : OSl RNo 4 25 B (fun j => B ≤ j ∧ j ≠ b) w u l) (hob : ∀ k, u.ownBlock = some k → k ≠ b)
    (hBw : B ≤ w.heap.size) (hn : RNo F w cs n) (hk : checkN n = 0) (hl : l.length ≤ 300) :
    Calls Try.prog 47 #[.pointer (some ⟨b, 0, none⟩), .agg cs.toArray] w (IsAdd l n b B w) := by
  have HNU := Lib.hid (fun (W : World) (hx : Ext w W) => numbers_any ((osl_rsl gNo ho (G := fun _ => True) (fun _ _ _ => trivial) (fun _ _ => trivial)).ext gNo hx) (show l.length ≤ 1000 by omega))
  obtain ⟨s1, s2, s3⟩ := note_small hk
  have HOW := Lib.hid (fun (W : World) (hx : Ext w W) => ownNote_any (gNo.ext hn hx) s1 s2 s3)
  have i1 : I64 n.site := by obtain ⟨_, _, _, i, _⟩ := hn; exact i
  have HWF := WalkArith.wf_i64 i1
  have HO := Lib.hid ho
  have HOL := Lib.hid (osl_lt ho)
  have hle := howN_len l n.site
  obtain ⟨v, x, rfl, _, _, h1, h2⟩ := hn
  obtain ⟨a1, n1, c1, rfl⟩ := h1.slice
  obtain ⟨a2, n2, c2, rfl⟩ := h2.slice
  obtain ⟨a0, n0, c0, rfl⟩ := osl_slice ho
  obtain rfl : n0 = l.length := (osl_len ho).1
  have hbw : b < w.heap.size := World.block_lt_of_cell? _ _ hc
  have HOB := Lib.hid hob
  have hbn : ¬ b = w.heap.size := by omega
  obtain ⟨h, hh⟩ : ∃ h : Nat, howN l n.site = h := ⟨_, rfl⟩
  have hh3 : h ≤ 300 := by omega
  clear hob ho h1 h2 s1 s2 s3 i1 hk hle
  go_enter Try.func47, Try.ntmps47
  go_wp2_with fail
  refine wp_name (fun W1 eW1 => ?_)
  have e0 : W1.cell? ⟨w.heap.size, 0, none⟩ = some (.int .i64 n.site) := by rw [eW1]; go_simp
  have e1 : W1.cell? ⟨w.heap.size, 1, none⟩ = some (.int .i64 n.number) := by rw [eW1]; go_simp
  have e2 : W1.cell? ⟨w.heap.size, 2, none⟩ = some (.slice a1 n1 c1) := by rw [eW1]; go_simp
  have e3 : W1.cell? ⟨w.heap.size, 3, none⟩ = some (.slice a2 n2 c2) := by rw [eW1]; go_simp
  have e4 : W1.cell? ⟨b, 0, none⟩ = some (.slice a0 l.length c0) := by rw [eW1]; go_simp
  have ef : W1.frozen? ⟨b, 0, none⟩ = false := by rw [eW1]; go_simp
  have hw1 : Ext w W1 := by rw [eW1]; exact extA
  have z1 : w.heap.size < W1.heap.size := World.block_lt_of_cell? _ _ e0
  have z2 : b < W1.heap.size := by omega
  clear eW1 hc hf
  go_cut [6] from 7 (fun s wx => s = .int .i64 ((h + 1 : Nat) : Int) ∧ Hid (Ext W1 wx))
  case first =>
    go_region_held3 (fun W => W.cell? ⟨w.heap.size, 0, none⟩ = some (.int .i64 n.site) ∧ W.cell? ⟨b, 0, none⟩ = some (.slice a0 l.length c0))
      (first | (refine ⟨?_, ?_⟩ <;> (with_reducible assumption)) | (refine ⟨?_, ?_⟩ <;> (rw [hx2.cells _ _ (by first | omega | (simp <;> omega))]; first | (with_reducible assumption) | go_simp)) | go_keep)
      (first | (go_at_call 65; go_must ((with_reducible refine (HNU.out _ (ext_trans hw1 extA)).mono ?_); rintro e w2 ⟨b2, D, rfl, _, hown, hhas, hx2⟩; have hz2 := hx2.size; (try simp at hz2); obtain ⟨c, hrun, hat, _⟩ := hown.lookup_int lawI Try.underlying86 Try.underlying3 (zeroI _) (Go.Maps.keyOf_int_mk Try.underlying3 HWF))))
    all_goals (go_wp2_with fail; go_meet)
    all_goals
      refine ⟨?_, Lib.hid (ext_trans extA hx2)⟩
      obtain ⟨hce, _⟩ := mapHas_step (n := n) hhas hat (show l.length ≤ 1000 by omega)
      rw [hce, hh]
      first
        | rw [wrap_nat (show h ≤ 1000 by omega)]
        | rw [IntWalk.i64_left, wrap_nat (show h ≤ 1000 by omega)]
  case rest =>
    obtain ⟨rfl, HXC⟩ := hcut
    have y0 := (HXC.out.cells _ 0 z1).trans e0
    have y1 := (HXC.out.cells _ 1 z1).trans e1
    have y2 := (HXC.out.cells _ 2 z1).trans e2
    have y3 := (HXC.out.cells _ 3 z1).trans e3
    have y4 := (HXC.out.cells _ 0 z2).trans e4
    have yf := (HXC.out.frz _ 0 z2).trans ef
    have HXW := Lib.hid (ext_trans hw1 HXC.out)
    have hzc := HXC.out.size
    have z3 : w.heap.size < wc.heap.size := by omega
    have z4 : b < wc.heap.size := by omega
    clear e0 e1 e2 e3 e4 ef
    have HN := Lib.hid hh
    by_cases hq1 : n.number < ((h : Int) + 1)
    · have t1 : decide (n.number < ((h : Int) + 1)) = true := decide_eq_true hq1
      have hB : addB l n = false := by unfold addB; rw [hh, decide_eq_false (by omega)]; rfl
      have hE : addE l n = 0 := by unfold addE; rw [hh, if_neg (by omega), if_neg (by omega)]
      have HB := Lib.hid hB
      have HE := Lib.hid hE
      clear hB hE hh hq1
      go_wp2_with fail
      go_ret2
      exact add_same HB.out HE.out y4 HO.out HXW.out
    · have t1 : decide (n.number < ((h : Int) + 1)) = false := decide_eq_false hq1
      by_cases hq2 : ((h : Int) + 1) < n.number
      · have t2 : decide (((h : Int) + 1) < n.number) = true := decide_eq_true hq2
        have hB : addB l n = false := by unfold addB; rw [hh, decide_eq_false (by omega)]; rfl
        have hE : addE l n = 4 := by unfold addE; rw [hh, if_pos (by omega)]
        have HB := Lib.hid hB
        have HE := Lib.hid hE
        clear hB hE hh hq1 hq2
        go_wp2_with fail
        go_ret2
        exact add_same HB.out HE.out y4 HO.out HXW.out
      · have t2 : decide (((h : Int) + 1) < n.number) = false := decide_eq_false hq2
        by_cases hq3 : l.length = 300
        · have t3 : ((l.length : Int) == 300) = true := by rw [hq3]; rfl
          have hB : addB l n = false := by unfold addB; rw [hq3]; simp
          have hE : addE l n = 2 := by unfold addE; rw [hh, if_neg (by omega), if_pos ⟨by omega, hq3⟩]
          have HB := Lib.hid hB
          have HE := Lib.hid hE
          clear hB hE hh hq1 hq2 hq3
          go_wp2_with fail
          go_ret2
          exact add_same HB.out HE.out y4 HO.out HXW.out
        · have t3 : ((l.length : Int) == 300) = false := by
            rw [beq_eq_false_iff_ne]; omega
          have hB : addB l n = true := by unfold addB; rw [hh, decide_eq_true (by omega), decide_eq_true hq3]; rfl
          have hE : addE l n = 0 := by unfold addE; rw [hh, if_neg (by omega), if_neg (fun e => hq3 e.2)]
          have HB := Lib.hid hB
          have HE := Lib.hid hE
          clear hB hE hh hq1 hq2 hq3
          obtain ⟨i0, hi0, hz0, hz1', hz2⟩ := info_parts info_noG
          have HJ := Lib.hid hi0
          have HZ0 := Lib.hid hz0
          have HZ1 := Lib.hid hz1'
          have HZ2 := Lib.hid hz2
          clear hi0 hz0 hz1' hz2
          go_upto_region 8 with fail
          refine wp_name (fun W5 eW5 => ?_)
          have e0 : W5.cell? ⟨w.heap.size, 0, none⟩ = some (.int .i64 n.site) := by rw [eW5]; go_simp
          have e1 : W5.cell? ⟨w.heap.size, 1, none⟩ = some (.int .i64 n.number) := by rw [eW5]; go_simp
          have e2 : W5.cell? ⟨w.heap.size, 2, none⟩ = some (.slice a1 n1 c1) := by rw [eW5]; go_simp
          have e3 : W5.cell? ⟨w.heap.size, 3, none⟩ = some (.slice a2 n2 c2) := by rw [eW5]; go_simp
          have e4 : W5.cell? ⟨b, 0, none⟩ = some (.slice a0 l.length c0) := by rw [eW5]; go_simp
          have ef : W5.frozen? ⟨b, 0, none⟩ = false := by rw [eW5]; go_simp
          have hw5 : Ext w W5 := by rw [eW5]; exact ext_trans HXW.out extA
          have z5 : w.heap.size < W5.heap.size := World.block_lt_of_cell? _ _ e0
          have z6 : b < W5.heap.size := by omega
          clear eW5 y0 y1 y2 y3 y4 yf HXC HXW
          have hl1 : l.length ≤ 1000 := by omega
          have HL1 := Lib.hid hl1
          have hl3 := hl
          clear hl1 t1 t2 t3
          generalize n.site = st at *
          generalize n.number = nu at *
          go_cut [] from 33 (fun wx => ∃ u, wx.cell? ⟨b, 0, none⟩ = some u ∧ Hid (OSl RNo 4 25 B (fun j => B ≤ j ∧ j ≠ b) wx u (l ++ [n])) ∧ Hid (∀ a : World, Ext a w → a.heap.size ≤ b → a.heap.size ≤ B → Ext a wx))
          case first =>
            go_region_law (first
              | (go_simp; go_at_call 66; go_must ((with_reducible refine (HOW.out _ (ext_trans hw5 extA)).mono ?_); rintro e w3 ⟨cs3, rfl, hn3, hx3⟩; have HN3 := Lib.hid hn3; obtain ⟨v3, u3, rfl, _, _, hv3, hu3⟩ := hn3; obtain ⟨a3, n3, c3, rfl⟩ := hv3.slice; obtain ⟨a4, n4, c4, rfl⟩ := hu3.slice; clear hv3 hu3; have hz3 := hx3.size; (try simp at hz3); have hb3 : w.heap.size < w3.heap.size := (by omega); have hb4 : b < w3.heap.size := (by omega); have x4 := (hx3.cells b 0 (by first | omega | (simp <;> omega))).trans (show _ = some (.slice a0 l.length c0) by first | (with_reducible assumption) | go_simp); have xf := (hx3.frz b 0 (by first | omega | (simp <;> omega))).trans (show _ = false by first | (with_reducible assumption) | go_simp); have HX3 := Lib.hid (show Ext w w3 from ext_trans (ext_trans hw5 extA) hx3)))
              | ((refine step_appAll gNo rfl (.tmp 37) (.tmp 40) 36 rfl B 25 i0 _ 4 64 Try.underlying36 HJ.out HZ0.out HZ1.out HZ2.out rfl (by omega) (F := fun j => B ≤ j ∧ j ≠ b) (G := fun j => w.heap.size ≤ j) (.slice a0 l.length c0) l rfl (osl_ext gNo HO.out (ext_trans HX3.out extA)) (.slice (some ⟨w3.heap.size, 0, none⟩) 1 1) [n] rfl (rd_one rfl (rangeAt4G (by first | (with_reducible assumption) | go_simp) (by first | (with_reducible assumption) | go_simp) (by first | (with_reducible assumption) | go_simp) (by first | (with_reducible assumption) | go_simp)) (gNo.ext (gNo.more (fun j hj _ => (show w.heap.size ≤ j by first | omega | (simp at hj; omega))) HN3.out) extA) (Nat.le_of_lt hb3) (by first | omega | (simp <;> omega)) (Nat.le_refl _) (by unfold maxLen; omega)) one_noG (fun j hj _ => ⟨⟨Nat.le_trans hBw hj, fun e => by have hj' : w.heap.size ≤ j := hj; omega⟩, fun e => by have := (HOL.out j e.symm).2; have hj' : w.heap.size ≤ j := hj; omega⟩) (noG_len HL1.out) (noG_byt HL1.out) (by first | omega | (simp <;> omega)) ?_); intro v9 w9 hown9 hg9 hat9; obtain ⟨a9, n9, c9, rfl⟩ := osl_slice hown9; have hgb := hg9.block b (by first | omega | (simp <;> omega)) (fun e => HOB.out b e.symm rfl); have HV9 := Lib.hid (show ∀ k, (Value.slice a9 n9 c9).ownBlock = some k → k ≠ b from fun k hk => own_step HOB.out hat9 hk (Nat.lt_of_lt_of_le hb4 (show Ext w3 _ from extA).size)); have s4 : w9.cell? ⟨b, 0, none⟩ = some (.slice a0 l.length c0) := (World.cell?_of_block (a := ⟨b, 0, none⟩) hgb).trans (by go_simp); have sf : w9.frozen? ⟨b, 0, none⟩ = false := (World.frozen?_of_block (a := ⟨b, 0, none⟩) hgb).trans (by go_simp)))
            all_goals (go_wp2_with fail; go_meet)
            all_goals
              refine ⟨_, World.cell?_setCell_same _ _ _ s4, Lib.hid (osl_keep gNo hown9 (keeps_set keeps_refl (fun _ h => no_ownH HV9.out h) _)), Lib.hid (fun a ha hab haB => ext_set (ext_grow (ext_trans ha (ext_trans HX3.out extA)) hg9 (fun j hj => by have := (HOL.out j hj).1; omega)) hab _)⟩
          case rest =>
            obtain ⟨u, hc, ho, hx⟩ := hcut
            go_wp2_with fail
            go_ret2
            refine ⟨u, by rw [HB.out, HE.out]; rfl, hc, ?_, hx.out⟩
            unfold addV
            rw [HB.out]
            exact ho.out
end Go.Proofs.Ytiladkinndgeaaa
/- A note posted. -/
namespace Go.Proofs.Ytiladkinndgeaaa
open Go Go.RowKit Go.BigFrame Cp

theorem own_box {B base : Nat} {w : World} {v : Value} {l : List No} (h : OSl RNo 4 25 base (fun j => base ≤ j) w v l) (hb : B ≤ base) : OSl RNo 4 25 B (fun j => B ≤ j ∧ j ≠ w.heap.size) w v l :=
  osl_moreG gNo (osl_base hb h) (fun k hk hlt _ => ⟨Nat.le_trans hb hk, Nat.ne_of_lt hlt⟩)
theorem postE_log {l : List No} {n : No} (h : ¬ checkLog l = 0) : postE l n = checkLog l := by unfold postE; rw [if_pos h]
theorem postE_note {l : List No} {n : No} (h : checkLog l = 0) (k : ¬ checkN n = 0) : postE l n = checkN n := by unfold postE; rw [if_neg (by simpa using h), if_pos k]
theorem postE_add {l : List No} {n : No} (h : checkLog l = 0) (k : checkN n = 0) : postE l n = addE l n := by unfold postE addE; rw [if_neg (by simpa using h), if_neg (by simpa using k)]
theorem post_add {l : List No} {n : No} (h : checkLog l = 0) (k : checkN n = 0) (e : addE l n = 0) : postB l n = addB l n ∧ postV l n = addV l n := by
  have e' := (postE_add h k).trans e
  have hb : postB l n = addB l n := by
    unfold postB addB
    rw [decide_eq_true e']
    by_cases hq : n.number = (howN l n.site : Int) + 1
    · rw [decide_eq_true hq]
      unfold addE at e
      rw [if_neg (by omega)] at e
      by_cases h3 : l.length = 300
      · rw [if_pos ⟨hq, h3⟩] at e; cases e
      · rw [decide_eq_true h3]
    · rw [decide_eq_false hq]; rfl
  refine ⟨hb, ?_⟩
  unfold addV
  cases hc : addB l n with
  | true => rw [if_pos rfl]; exact (post_right e').2.2.2.1 (hb.trans hc)
  | false => rw [if_neg (by simp)]; exact (post_right e').2.2.2.2 (hb.trans hc)
/-- what Add comes to, with its errno by name -/
def IsAddE (er : Int) (l : List No) (n : No) (b B : Nat) (w : World) (e : Ending) (w' : World) : Prop :=
  ∃ u, e = .returned (.tuple #[.bool (addB l n), .int .i64 er]) ∧ w'.cell? ⟨b, 0, none⟩ = some u ∧ OSl RNo 4 25 B (fun j => B ≤ j ∧ j ≠ b) w' u (addV l n) ∧ ∀ a : World, Ext a w → a.heap.size ≤ b → a.heap.size ≤ B → Ext a w'
theorem isAdd_er {er : Int} {l : List No} {n : No} {b B : Nat} {w : World} {f : FuncId} {args : Array Value} (he : addE l n = er) (h : Calls Try.prog f args w (IsAdd l n b B w)) : Calls Try.prog f args w (IsAddE er l n b B w) := by
  subst he; exact h
/-- a relay, was it new, and an errno -/
def IsPost (l : List No) (n : No) (w : World) (e : Ending) (w' : World) : Prop :=
  ∃ u, e = .returned (.tuple #[.agg #[u], .bool (postB l n), .int .i64 (postE l n)]) ∧ RSl RNo 4 (fun j => w.heap.size ≤ j) w' u (postV l n) ∧ Ext w w'
theorem post_err_of {l : List No} {n : No} {er : Int} {w w' : World} (h : postE l n = er) (hne : ¬ er = 0) (hx : Ext w w') : IsPost l n w (.returned (.tuple #[.agg #[.slice none 0 0], .bool false, .int .i64 er])) w' := by
  obtain ⟨h1, h2⟩ := post_err (l := l) (n := n) (by rw [h]; exact hne)
  exact ⟨_, by rw [h2, h], by rw [h1]; exact RSl.nil_ (Nat.zero_le _), hx⟩
set_option maxRecDepth 100000 in
set_option maxHeartbeats 4000000 in
theorem post_any {F G : Nat → Prop} {w : World} {v : Value} {cs : List Value} {l : List No} {n : No} (h : RSl RNo 4 F w v l) (k : RNo G w cs n) :
    Calls Try.prog 15 #[.agg #[v], .agg cs.toArray] w (IsPost l n w) := by
  have HCR := Lib.hid (fun (W : World) (hx : Ext w W) => checkRelayP_any (h.ext gNo hx))
  have HCN := Lib.hid (fun (W : World) (hx : Ext w W) => checkNoteP_any (gNo.ext k hx))
  have HOR := Lib.hid (fun h1 h2 (W : World) (hx : Ext w W) => ownRelay_any (h.ext gNo hx) h1 h2)
  have HNN := Lib.hid (fun (W : World) (hx : Ext w W) => gNo.ext k hx)
  obtain ⟨a0, n0, c0, rfl⟩ := h.slice
  obtain ⟨v', x', rfl, _, _, k1, k2⟩ := k
  obtain ⟨a1, n1, c1, rfl⟩ := k1.slice
  obtain ⟨a2, n2, c2, rfl⟩ := k2.slice
  clear h k1 k2
  by_cases hc1 : checkLog l = 0
  · by_cases hc2 : checkN n = 0
    · obtain ⟨hl3, hll⟩ := checkLog_ok.1 hc1
      have HOW := Lib.hid (HOR.out (by omega) (fun m hm => by obtain ⟨i, hi⟩ := List.getElem?_of_mem hm; exact (hll i m hi).1))
      have HK := Lib.hid hc2
      have HPE := Lib.hid (postE_add hc1 hc2)
      have HPA := Lib.hid (post_add hc1 hc2)
      rw [hc1] at HCR
      rw [hc2] at HCN
      have HL3 := Lib.hid hl3
      have HAE := Lib.hid (fun (F : Nat → Prop) (W : World) (b B : Nat) (u : Value) (cs : List Value) h1 h2 h3 h4 h5 h6 => isAdd_er rfl (add_any (F := F) (w := W) (b := b) (B := B) (u := u) (cs := cs) (l := l) (n := n) h1 h2 h3 h4 h5 h6 hc2 hl3))
      clear hc1 hc2 hl3 hll HOR
      go_enter Try.func15, Try.ntmps15
      go_upto_region 1 with fail
      refine wp_name (fun W0 eW0 => ?_)
      have e0 : W0.cell? ⟨w.heap.size, 0, none⟩ = some (.slice a0 n0 c0) := by rw [eW0]; go_simp
      have e1 : W0.cell? ⟨w.heap.size + 1, 0, none⟩ = some (.int .i64 n.site) := by rw [eW0]; go_simp
      have e2 : W0.cell? ⟨w.heap.size + 1, 1, none⟩ = some (.int .i64 n.number) := by rw [eW0]; go_simp
      have e3 : W0.cell? ⟨w.heap.size + 1, 2, none⟩ = some (.slice a1 n1 c1) := by rw [eW0]; go_simp
      have e4 : W0.cell? ⟨w.heap.size + 1, 3, none⟩ = some (.slice a2 n2 c2) := by rw [eW0]; go_simp
      have e5 : W0.cell? ⟨w.heap.size + 1 + 1, 0, none⟩ = some (.slice none 0 0) := by rw [eW0]; go_simp
      have ef : W0.frozen? ⟨w.heap.size + 1 + 1, 0, none⟩ = false := by rw [eW0]; go_simp
      have hw0 : Ext w W0 := by rw [eW0]; exact extA
      have hs0 : W0.heap.size = w.heap.size + 1 + 1 + 1 := by rw [eW0]; simp
      clear eW0
      by_cases hA : addE l n = 0
      · obtain ⟨hb, hv⟩ := HPA.out hA
        have HB := Lib.hid hb
        have HV := Lib.hid hv
        have HE := Lib.hid (HPE.out.trans hA)
        rw [hA] at HAE
        clear hA hb hv
        go_wp2_with (first | (go_at_call 20; go_must ((with_reducible refine (HCR.out _ (ext_trans hw0 extA)).mono ?_); rintro e w3 ⟨rfl, hx3⟩; have hz3 := hx3.size; (try simp at hz3); have hl3 : w.heap.size + 1 + 1 < w3.heap.size := (by omega); have hm3 : w.heap.size + 1 < w3.heap.size := (by omega); have hn3 : w.heap.size < w3.heap.size := (by omega); have rb0 := (hx3.cells (w.heap.size) 0 (by first | omega | (simp <;> omega))).trans (show _ = some (.slice a0 n0 c0) by first | (with_reducible assumption) | go_simp); have rb1 := (hx3.cells (w.heap.size + 1) 0 (by first | omega | (simp <;> omega))).trans (show _ = some (.int .i64 n.site) by first | (with_reducible assumption) | go_simp); have rb2 := (hx3.cells (w.heap.size + 1) 1 (by first | omega | (simp <;> omega))).trans (show _ = some (.int .i64 n.number) by first | (with_reducible assumption) | go_simp); have rb3 := (hx3.cells (w.heap.size + 1) 2 (by first | omega | (simp <;> omega))).trans (show _ = some (.slice a1 n1 c1) by first | (with_reducible assumption) | go_simp); have rb4 := (hx3.cells (w.heap.size + 1) 3 (by first | omega | (simp <;> omega))).trans (show _ = some (.slice a2 n2 c2) by first | (with_reducible assumption) | go_simp); have r2 := (hx3.cells (w.heap.size + 1 + 1) 0 (by first | omega | (simp <;> omega))).trans (show _ = some (.slice none 0 0) by first | (with_reducible assumption) | go_simp); have rf := (hx3.frz (w.heap.size + 1 + 1) 0 (by first | omega | (simp <;> omega))).trans (show _ = false by first | (with_reducible assumption) | go_simp); have HX3 := Lib.hid (show Ext W0 w3 from ext_trans (extA) hx3))) | (go_at_call 13; go_must ((with_reducible refine (HCN.out _ (ext_trans hw0 (ext_trans HX3.out extA))).mono ?_); rintro e w4 ⟨rfl, hx4⟩; have hz4 := hx4.size; (try simp at hz4); have hl4 : w.heap.size + 1 + 1 < w4.heap.size := (by omega); have hm4 : w.heap.size + 1 < w4.heap.size := (by omega); have hn4 : w.heap.size < w4.heap.size := (by omega); have sb0 := (hx4.cells (w.heap.size) 0 (by first | omega | (simp <;> omega))).trans (show _ = some (.slice a0 n0 c0) by first | (with_reducible assumption) | go_simp); have sb1 := (hx4.cells (w.heap.size + 1) 0 (by first | omega | (simp <;> omega))).trans (show _ = some (.int .i64 n.site) by first | (with_reducible assumption) | go_simp); have sb2 := (hx4.cells (w.heap.size + 1) 1 (by first | omega | (simp <;> omega))).trans (show _ = some (.int .i64 n.number) by first | (with_reducible assumption) | go_simp); have sb3 := (hx4.cells (w.heap.size + 1) 2 (by first | omega | (simp <;> omega))).trans (show _ = some (.slice a1 n1 c1) by first | (with_reducible assumption) | go_simp); have sb4 := (hx4.cells (w.heap.size + 1) 3 (by first | omega | (simp <;> omega))).trans (show _ = some (.slice a2 n2 c2) by first | (with_reducible assumption) | go_simp); have s2 := (hx4.cells (w.heap.size + 1 + 1) 0 (by first | omega | (simp <;> omega))).trans (show _ = some (.slice none 0 0) by first | (with_reducible assumption) | go_simp); have sf := (hx4.frz (w.heap.size + 1 + 1) 0 (by first | omega | (simp <;> omega))).trans (show _ = false by first | (with_reducible assumption) | go_simp); have HX4 := Lib.hid (show Ext W0 w4 from ext_trans (ext_trans HX3.out extA) hx4))) | (go_at_call 46; go_must ((with_reducible refine (HOW.out _ (ext_trans hw0 (ext_trans HX4.out extA))).mono ?_); rintro e w5 ⟨u5, rfl, ho5, hx5⟩; obtain ⟨a5, n5, c5, rfl⟩ := osl_slice ho5; have hz5 := hx5.size; (try simp at hz5); have hl5 : w.heap.size + 1 + 1 < w5.heap.size := (by omega); have hm5 : w.heap.size + 1 < w5.heap.size := (by omega); have hn5 : w.heap.size < w5.heap.size := (by omega); have tb0 := (hx5.cells (w.heap.size) 0 (by first | omega | (simp <;> omega))).trans (show _ = some (.slice a0 n0 c0) by first | (with_reducible assumption) | go_simp); have tb1 := (hx5.cells (w.heap.size + 1) 0 (by first | omega | (simp <;> omega))).trans (show _ = some (.int .i64 n.site) by first | (with_reducible assumption) | go_simp); have tb2 := (hx5.cells (w.heap.size + 1) 1 (by first | omega | (simp <;> omega))).trans (show _ = some (.int .i64 n.number) by first | (with_reducible assumption) | go_simp); have tb3 := (hx5.cells (w.heap.size + 1) 2 (by first | omega | (simp <;> omega))).trans (show _ = some (.slice a1 n1 c1) by first | (with_reducible assumption) | go_simp); have tb4 := (hx5.cells (w.heap.size + 1) 3 (by first | omega | (simp <;> omega))).trans (show _ = some (.slice a2 n2 c2) by first | (with_reducible assumption) | go_simp); have t2 := (hx5.cells (w.heap.size + 1 + 1) 0 (by first | omega | (simp <;> omega))).trans (show _ = some (.slice none 0 0) by first | (with_reducible assumption) | go_simp); have tf := (hx5.frz (w.heap.size + 1 + 1) 0 (by first | omega | (simp <;> omega))).trans (show _ = false by first | (with_reducible assumption) | go_simp); have HX5 := Lib.hid (show Ext W0 w5 from ext_trans (ext_trans HX4.out extA) hx5); have HU5 := Lib.hid (own_box ho5 (show w.heap.size + 1 + 1 + 1 ≤ _ by first | omega | (simp <;> omega))); have HB5 := Lib.hid (fun k (hk : (Value.slice a5 n5 c5).ownBlock = some k) => Nat.ne_of_lt (osl_lt ho5 k hk).2); clear ho5)) | (go_at_call 47; go_must ((with_reducible refine (HAE.out _ _ w5.heap.size (w.heap.size + 1 + 1 + 1) _ _ (by go_simp) (by go_simp) (osl_ext gNo HU5.out extA) HB5.out (by first | omega | (simp <;> omega)) (HNN.out _ (ext_trans hw0 (ext_trans HX5.out extA)))).mono ?_); rintro e w6 ⟨u6, rfl, hc6, ho6, hx6⟩; obtain ⟨a6, n6, c6, rfl⟩ := osl_slice ho6; have HO6 := Lib.hid ho6; have HX6 := Lib.hid (hx6 W0 (ext_trans HX5.out extA) (by omega) (by omega)); have hl6 : w.heap.size + 1 + 1 < W0.heap.size := (by omega); have q2 := (HX6.out.cells (w.heap.size + 1 + 1) 0 hl6).trans (by with_reducible assumption); have qf := (HX6.out.frz (w.heap.size + 1 + 1) 0 hl6).trans (by with_reducible assumption); have hl7 : w.heap.size + 1 + 1 < w6.heap.size := World.block_lt_of_cell? _ _ q2; clear ho6 hx6)))
        have hs1 : (w6.setCell ⟨w.heap.size + 1 + 1, 0, none⟩ (.slice a6 n6 c6)).cell? ⟨w.heap.size + 1 + 1, 0, none⟩ = some (.slice a6 n6 c6) := World.cell?_setCell_same _ _ _ q2
        refine bodyPost_ret (v := .tuple #[.agg #[.slice a6 n6 c6], .bool (addB l n), .int .i64 0]) (by simp [results, Try.results15, go_sem, hs1]) rfl ⟨_, by rw [HB.out, HE.out], ?_, ?_⟩
        · rw [HV.out]
          refine RSl.more gNo (fun j hj _ => ?_) (RSl.keep gNo (F := fun j => w.heap.size + 1 + 1 + 1 ≤ j) (keeps_set keeps_refl (by intro _ h; exact Nat.not_succ_le_self _ h) _) (osl_rsl gNo HO6.out (fun _ h _ => h.1) (fun _ h => h)))
          have h' : w.heap.size + 1 + 1 + 1 ≤ j := hj
          show w.heap.size ≤ j
          omega
        · exact ext_set (ext_trans hw0 HX6.out) (by show w.heap.size ≤ w.heap.size + 1 + 1; omega) _
      · have HE := Lib.hid HPE.out
        have HNE := Lib.hid hA
        have t1 : (addE l n != 0) = true := by simpa using hA
        clear hA HPA
        generalize addE l n = er at *
        generalize addB l n = bb at *
        go_wp2_with (first | (go_at_call 20; go_must ((with_reducible refine (HCR.out _ (ext_trans hw0 extA)).mono ?_); rintro e w3 ⟨rfl, hx3⟩; have hz3 := hx3.size; (try simp at hz3); have hl3 : w.heap.size + 1 + 1 < w3.heap.size := (by omega); have hm3 : w.heap.size + 1 < w3.heap.size := (by omega); have hn3 : w.heap.size < w3.heap.size := (by omega); have rb0 := (hx3.cells (w.heap.size) 0 (by first | omega | (simp <;> omega))).trans (show _ = some (.slice a0 n0 c0) by first | (with_reducible assumption) | go_simp); have rb1 := (hx3.cells (w.heap.size + 1) 0 (by first | omega | (simp <;> omega))).trans (show _ = some (.int .i64 n.site) by first | (with_reducible assumption) | go_simp); have rb2 := (hx3.cells (w.heap.size + 1) 1 (by first | omega | (simp <;> omega))).trans (show _ = some (.int .i64 n.number) by first | (with_reducible assumption) | go_simp); have rb3 := (hx3.cells (w.heap.size + 1) 2 (by first | omega | (simp <;> omega))).trans (show _ = some (.slice a1 n1 c1) by first | (with_reducible assumption) | go_simp); have rb4 := (hx3.cells (w.heap.size + 1) 3 (by first | omega | (simp <;> omega))).trans (show _ = some (.slice a2 n2 c2) by first | (with_reducible assumption) | go_simp); have r2 := (hx3.cells (w.heap.size + 1 + 1) 0 (by first | omega | (simp <;> omega))).trans (show _ = some (.slice none 0 0) by first | (with_reducible assumption) | go_simp); have rf := (hx3.frz (w.heap.size + 1 + 1) 0 (by first | omega | (simp <;> omega))).trans (show _ = false by first | (with_reducible assumption) | go_simp); have HX3 := Lib.hid (show Ext W0 w3 from ext_trans (extA) hx3))) | (go_at_call 13; go_must ((with_reducible refine (HCN.out _ (ext_trans hw0 (ext_trans HX3.out extA))).mono ?_); rintro e w4 ⟨rfl, hx4⟩; have hz4 := hx4.size; (try simp at hz4); have hl4 : w.heap.size + 1 + 1 < w4.heap.size := (by omega); have hm4 : w.heap.size + 1 < w4.heap.size := (by omega); have hn4 : w.heap.size < w4.heap.size := (by omega); have sb0 := (hx4.cells (w.heap.size) 0 (by first | omega | (simp <;> omega))).trans (show _ = some (.slice a0 n0 c0) by first | (with_reducible assumption) | go_simp); have sb1 := (hx4.cells (w.heap.size + 1) 0 (by first | omega | (simp <;> omega))).trans (show _ = some (.int .i64 n.site) by first | (with_reducible assumption) | go_simp); have sb2 := (hx4.cells (w.heap.size + 1) 1 (by first | omega | (simp <;> omega))).trans (show _ = some (.int .i64 n.number) by first | (with_reducible assumption) | go_simp); have sb3 := (hx4.cells (w.heap.size + 1) 2 (by first | omega | (simp <;> omega))).trans (show _ = some (.slice a1 n1 c1) by first | (with_reducible assumption) | go_simp); have sb4 := (hx4.cells (w.heap.size + 1) 3 (by first | omega | (simp <;> omega))).trans (show _ = some (.slice a2 n2 c2) by first | (with_reducible assumption) | go_simp); have s2 := (hx4.cells (w.heap.size + 1 + 1) 0 (by first | omega | (simp <;> omega))).trans (show _ = some (.slice none 0 0) by first | (with_reducible assumption) | go_simp); have sf := (hx4.frz (w.heap.size + 1 + 1) 0 (by first | omega | (simp <;> omega))).trans (show _ = false by first | (with_reducible assumption) | go_simp); have HX4 := Lib.hid (show Ext W0 w4 from ext_trans (ext_trans HX3.out extA) hx4))) | (go_at_call 46; go_must ((with_reducible refine (HOW.out _ (ext_trans hw0 (ext_trans HX4.out extA))).mono ?_); rintro e w5 ⟨u5, rfl, ho5, hx5⟩; obtain ⟨a5, n5, c5, rfl⟩ := osl_slice ho5; have hz5 := hx5.size; (try simp at hz5); have hl5 : w.heap.size + 1 + 1 < w5.heap.size := (by omega); have hm5 : w.heap.size + 1 < w5.heap.size := (by omega); have hn5 : w.heap.size < w5.heap.size := (by omega); have tb0 := (hx5.cells (w.heap.size) 0 (by first | omega | (simp <;> omega))).trans (show _ = some (.slice a0 n0 c0) by first | (with_reducible assumption) | go_simp); have tb1 := (hx5.cells (w.heap.size + 1) 0 (by first | omega | (simp <;> omega))).trans (show _ = some (.int .i64 n.site) by first | (with_reducible assumption) | go_simp); have tb2 := (hx5.cells (w.heap.size + 1) 1 (by first | omega | (simp <;> omega))).trans (show _ = some (.int .i64 n.number) by first | (with_reducible assumption) | go_simp); have tb3 := (hx5.cells (w.heap.size + 1) 2 (by first | omega | (simp <;> omega))).trans (show _ = some (.slice a1 n1 c1) by first | (with_reducible assumption) | go_simp); have tb4 := (hx5.cells (w.heap.size + 1) 3 (by first | omega | (simp <;> omega))).trans (show _ = some (.slice a2 n2 c2) by first | (with_reducible assumption) | go_simp); have t2 := (hx5.cells (w.heap.size + 1 + 1) 0 (by first | omega | (simp <;> omega))).trans (show _ = some (.slice none 0 0) by first | (with_reducible assumption) | go_simp); have tf := (hx5.frz (w.heap.size + 1 + 1) 0 (by first | omega | (simp <;> omega))).trans (show _ = false by first | (with_reducible assumption) | go_simp); have HX5 := Lib.hid (show Ext W0 w5 from ext_trans (ext_trans HX4.out extA) hx5); have HU5 := Lib.hid (own_box ho5 (show w.heap.size + 1 + 1 + 1 ≤ _ by first | omega | (simp <;> omega))); have HB5 := Lib.hid (fun k (hk : (Value.slice a5 n5 c5).ownBlock = some k) => Nat.ne_of_lt (osl_lt ho5 k hk).2); clear ho5)) | (go_at_call 47; go_must ((with_reducible refine (HAE.out _ _ w5.heap.size (w.heap.size + 1 + 1 + 1) _ _ (by go_simp) (by go_simp) (osl_ext gNo HU5.out extA) HB5.out (by first | omega | (simp <;> omega)) (HNN.out _ (ext_trans hw0 (ext_trans HX5.out extA)))).mono ?_); rintro e w6 ⟨u6, rfl, hc6, ho6, hx6⟩; obtain ⟨a6, n6, c6, rfl⟩ := osl_slice ho6; have HO6 := Lib.hid ho6; have HX6 := Lib.hid (hx6 W0 (ext_trans HX5.out extA) (by omega) (by omega)); have hl6 : w.heap.size + 1 + 1 < W0.heap.size := (by omega); have q2 := (HX6.out.cells (w.heap.size + 1 + 1) 0 hl6).trans (by with_reducible assumption); have qf := (HX6.out.frz (w.heap.size + 1 + 1) 0 hl6).trans (by with_reducible assumption); have hl7 : w.heap.size + 1 + 1 < w6.heap.size := World.block_lt_of_cell? _ _ q2; clear ho6 hx6)))
        have hs1 : (w6.setCell ⟨w.heap.size + 1 + 1, 0, none⟩ (.slice none 0 0)).cell? ⟨w.heap.size + 1 + 1, 0, none⟩ = some (.slice none 0 0) := World.cell?_setCell_same _ _ _ q2
        refine bodyPost_ret (v := .tuple #[.agg #[.slice none 0 0], .bool false, .int .i64 er]) (by simp [results, Try.results15, go_sem, hs1]) rfl (post_err_of HE.out HNE.out (ext_set (ext_trans hw0 HX6.out) (by show w.heap.size ≤ w.heap.size + 1 + 1; omega) _))
    · have e := postE_note hc1 hc2
      rw [hc1] at HCR
      have HE := Lib.hid e
      have HNE := Lib.hid hc2
      have t1 : (checkN n != 0) = true := by simpa using hc2
      clear e hc1 hc2 HOR
      generalize checkN n = er at *
      go_enter Try.func15, Try.ntmps15
      go_wp2_with (first | (go_at_call 20; go_must ((with_reducible refine (HCR.out _ extA).mono ?_); rintro e w3 ⟨rfl, hx3⟩; have hz3 := hx3.size; (try simp at hz3); have hl3 : w.heap.size + 1 + 1 < w3.heap.size := (by omega); have hm3 : w.heap.size + 1 < w3.heap.size := (by omega); have hn3 : w.heap.size < w3.heap.size := (by omega); have rb0 := (hx3.cells (w.heap.size) 0 (by first | omega | (simp <;> omega))).trans (show _ = some (.slice a0 n0 c0) by first | (with_reducible assumption) | go_simp); have rb1 := (hx3.cells (w.heap.size + 1) 0 (by first | omega | (simp <;> omega))).trans (show _ = some (.int .i64 n.site) by first | (with_reducible assumption) | go_simp); have rb2 := (hx3.cells (w.heap.size + 1) 1 (by first | omega | (simp <;> omega))).trans (show _ = some (.int .i64 n.number) by first | (with_reducible assumption) | go_simp); have rb3 := (hx3.cells (w.heap.size + 1) 2 (by first | omega | (simp <;> omega))).trans (show _ = some (.slice a1 n1 c1) by first | (with_reducible assumption) | go_simp); have rb4 := (hx3.cells (w.heap.size + 1) 3 (by first | omega | (simp <;> omega))).trans (show _ = some (.slice a2 n2 c2) by first | (with_reducible assumption) | go_simp); have r2 := (hx3.cells (w.heap.size + 1 + 1) 0 (by first | omega | (simp <;> omega))).trans (show _ = some (.slice none 0 0) by first | (with_reducible assumption) | go_simp); have rf := (hx3.frz (w.heap.size + 1 + 1) 0 (by first | omega | (simp <;> omega))).trans (show _ = false by first | (with_reducible assumption) | go_simp); have HX3 := Lib.hid (show Ext w w3 from ext_trans (extA) hx3))) | (go_at_call 13; go_must ((with_reducible refine (HCN.out _ (ext_trans HX3.out extA)).mono ?_); rintro e w4 ⟨rfl, hx4⟩; have hz4 := hx4.size; (try simp at hz4); have hl4 : w.heap.size + 1 + 1 < w4.heap.size := (by omega); have hm4 : w.heap.size + 1 < w4.heap.size := (by omega); have hn4 : w.heap.size < w4.heap.size := (by omega); have sb0 := (hx4.cells (w.heap.size) 0 (by first | omega | (simp <;> omega))).trans (show _ = some (.slice a0 n0 c0) by first | (with_reducible assumption) | go_simp); have sb1 := (hx4.cells (w.heap.size + 1) 0 (by first | omega | (simp <;> omega))).trans (show _ = some (.int .i64 n.site) by first | (with_reducible assumption) | go_simp); have sb2 := (hx4.cells (w.heap.size + 1) 1 (by first | omega | (simp <;> omega))).trans (show _ = some (.int .i64 n.number) by first | (with_reducible assumption) | go_simp); have sb3 := (hx4.cells (w.heap.size + 1) 2 (by first | omega | (simp <;> omega))).trans (show _ = some (.slice a1 n1 c1) by first | (with_reducible assumption) | go_simp); have sb4 := (hx4.cells (w.heap.size + 1) 3 (by first | omega | (simp <;> omega))).trans (show _ = some (.slice a2 n2 c2) by first | (with_reducible assumption) | go_simp); have s2 := (hx4.cells (w.heap.size + 1 + 1) 0 (by first | omega | (simp <;> omega))).trans (show _ = some (.slice none 0 0) by first | (with_reducible assumption) | go_simp); have sf := (hx4.frz (w.heap.size + 1 + 1) 0 (by first | omega | (simp <;> omega))).trans (show _ = false by first | (with_reducible assumption) | go_simp); have HX4 := Lib.hid (show Ext w w4 from ext_trans (ext_trans HX3.out extA) hx4))))
      have hs0 : (w4.setCell ⟨w.heap.size + 1 + 1, 0, none⟩ (.slice none 0 0)).cell? ⟨w.heap.size + 1 + 1, 0, none⟩ = some (.slice none 0 0) := World.cell?_setCell_same _ _ _ s2
      refine bodyPost_ret (v := .tuple #[.agg #[.slice none 0 0], .bool false, .int .i64 er]) (by simp [results, Try.results15, go_sem, hs0]) rfl (post_err_of HE.out HNE.out (ext_set (ext_trans HX3.out (ext_trans extA hx4)) (by show w.heap.size ≤ w.heap.size + 1 + 1; omega) _))
  · have e := postE_log (n := n) hc1
    have HE := Lib.hid e
    have HNE := Lib.hid hc1
    have t1 : (checkLog l != 0) = true := by simpa using hc1
    have t2 : (checkLog l == 0) = false := by simpa using hc1
    clear e hc1 HOR
    generalize checkLog l = er at *
    go_enter Try.func15, Try.ntmps15
    go_wp2_with (first | (go_at_call 20; go_must ((with_reducible refine (HCR.out _ extA).mono ?_); rintro e w3 ⟨rfl, hx3⟩; have hz3 := hx3.size; (try simp at hz3); have hl3 : w.heap.size + 1 + 1 < w3.heap.size := (by omega); have hm3 : w.heap.size + 1 < w3.heap.size := (by omega); have hn3 : w.heap.size < w3.heap.size := (by omega); have rb0 := (hx3.cells (w.heap.size) 0 (by first | omega | (simp <;> omega))).trans (show _ = some (.slice a0 n0 c0) by first | (with_reducible assumption) | go_simp); have rb1 := (hx3.cells (w.heap.size + 1) 0 (by first | omega | (simp <;> omega))).trans (show _ = some (.int .i64 n.site) by first | (with_reducible assumption) | go_simp); have rb2 := (hx3.cells (w.heap.size + 1) 1 (by first | omega | (simp <;> omega))).trans (show _ = some (.int .i64 n.number) by first | (with_reducible assumption) | go_simp); have rb3 := (hx3.cells (w.heap.size + 1) 2 (by first | omega | (simp <;> omega))).trans (show _ = some (.slice a1 n1 c1) by first | (with_reducible assumption) | go_simp); have rb4 := (hx3.cells (w.heap.size + 1) 3 (by first | omega | (simp <;> omega))).trans (show _ = some (.slice a2 n2 c2) by first | (with_reducible assumption) | go_simp); have r2 := (hx3.cells (w.heap.size + 1 + 1) 0 (by first | omega | (simp <;> omega))).trans (show _ = some (.slice none 0 0) by first | (with_reducible assumption) | go_simp); have rf := (hx3.frz (w.heap.size + 1 + 1) 0 (by first | omega | (simp <;> omega))).trans (show _ = false by first | (with_reducible assumption) | go_simp); have HX3 := Lib.hid (show Ext w w3 from ext_trans (extA) hx3))))
    have hs0 : (w3.setCell ⟨w.heap.size + 1 + 1, 0, none⟩ (.slice none 0 0)).cell? ⟨w.heap.size + 1 + 1, 0, none⟩ = some (.slice none 0 0) := World.cell?_setCell_same _ _ _ r2
    refine bodyPost_ret (v := .tuple #[.agg #[.slice none 0 0], .bool false, .int .i64 er]) (by simp [results, Try.results15, go_sem, hs0]) rfl (post_err_of HE.out HNE.out (ext_set HX3.out (by show w.heap.size ≤ w.heap.size + 1 + 1; omega) _))
end Go.Proofs.Ytiladkinndgeaaa
