/- The marks between two others, made. -/
import Derived.Test.YtfgfdohppgoajaaGreatQc319e4a0fb
import Derived.Deep.RegionLaw
import Derived.Deep.DeepCutAuto
import Derived.Test.YtfgfdohppgoajaaGreatQ0968510478
import Derived.Test.YtfgfdohppgoajaaGreatQ474d344618
set_option linter.unusedVariables false
set_option linter.unusedSimpArgs false
namespace Go.Proofs.YtfgfdohppgoajaaGreat
open Go Go.RowKit Cp

/-- marks and an errno -/
def IsMarks (l : List Mk) (er : Int) (w : World) (e : Ending) (w' : World) : Prop := ∃ v, e = .returned (.tuple #[v, .int .i64 er]) ∧ RSl RMk 2 (fun k => w.heap.size ≤ k) w' v l ∧ Ext w w'

theorem between_ord {a b : Mk} {site clock many : Int} (h : betweenErr a b site clock many = 0) : b.1 ≠ [] → ordP a.1 b.1 = -1 := by
  obtain ⟨ha, hb, _, _, _, _, hab, _, _⟩ := betweenErr_ok h
  intro hne
  cases hna : noneM a with
  | true =>
    have := noneM_true.1 hna
    subst this
    cases hb1 : b.1 with
    | nil => exact absurd hb1 hne
    | cons x y => simp [ordP]
  | false =>
    cases hnb : noneM b with
    | true => have := noneM_true.1 hnb; subst this; simp at hne
    | false =>
      obtain ⟨h1, h2⟩ := hab hna hnb
      unfold ordM at h1
      split at h1
      · rename_i h3; exact absurd (ordP_zero.1 h3) h2
      · exact h1

theorem info_mark : (Tryz.prog.info? 47).map (fun i => (i.zero, i.size, i.bytes)) = some (some (.agg #[.slice none 0 0, .int .i64 0]), 2, 32) := by kernel_rfl
theorem with_fact {T G : Prop} (h : T) (k : T → G) : G := k h
theorem row1 {W : World} {r : Nat} {x y : Int} (h0 : W.cell? ⟨r, 0, none⟩ = some (.int .i64 x)) (h1 : W.cell? ⟨r, 1, none⟩ = some (.int .i64 y)) (ix : I64 x) (iy : I64 y) (hr : r < W.heap.size) :
    RSl RStp 2 (fun k => k = r) W (.slice (some ⟨r, 0, none⟩) 1 1) [(x, y)] :=
  rsl_of_range (rangeAt2 h0 h1) (chunks_one rfl ⟨rfl, ix, iy⟩) rfl hr (Nat.le_refl _) (by unfold maxLen; omega)

set_option maxRecDepth 100000 in
set_option maxHeartbeats 4000000 in
theorem marks_any {F G : Nat → Prop} {w : World} {cs ds : List Value} {a b : Mk} {site clock many : Int} (ha : RMk F w cs a) (hb : RMk G w ds b) (hc : I64 clock) (hm : I64 many) :
    Calls Tryz.prog 49 #[.agg cs.toArray, .agg ds.toArray, .int .i64 site, .int .i64 clock, .int .i64 many] w
      (IsMarks (if betweenErr a b site clock many = 0 then betweenL a b site clock many else []) (betweenErr a b site clock many) w) := by
  have HFR := Lib.hid (fun (W : World) (hx : Ext w W) => free_any (site := site) (gMk.ext ha hx) (gMk.ext hb hx) hc hm)
  obtain ⟨v, rfl, hl, _⟩ := ha
  obtain ⟨u, rfl, hmm, _⟩ := hb
  obtain ⟨l, c⟩ := a
  obtain ⟨m, d⟩ := b
  simp only at hl hmm HFR ⊢
  obtain ⟨a1, n1, c1, rfl⟩ := hl.slice
  obtain ⟨a2, n2, c2, rfl⟩ := hmm.slice
  obtain ⟨rfl, _, _⟩ := hl.len
  obtain ⟨rfl, _, _⟩ := hmm.len
  by_cases h0 : betweenErr (l, c) (m, d) site clock many = 0
  · rw [if_pos h0]
    have t0 : (betweenErr (l, c) (m, d) site clock many != 0) = false := by rw [h0]; rfl
    obtain ⟨b1, b2, hs, hcl, hma, hcm, _, hla, hlb⟩ := betweenErr_ok h0
    obtain ⟨ra, _, _⟩ := right_ofB (l, c) b1
    obtain ⟨rb, lb, _⟩ := right_ofB (m, d) b2
    have hga := gap_facts l m site (fun s hs => ⟨(ra s hs).1, (ra s hs).2.1⟩) (fun s hs => ⟨(rb s hs).1, (rb s hs).2.1⟩) lb (between_ord h0)
    have hfi := fun (W : World) (hx : Ext w W) => find_any (site := site) (hl.ext gStp hx) (hmm.ext gStp hx) (fun s hs => ⟨(ra s hs).1, (ra s hs).2.1⟩) (fun s hs => ⟨(rb s hs).1, (rb s hs).2.1⟩) lb (between_ord h0) (by simp at hlb; omega) (by unfold I64; omega)
    have hbe : betweenL (l, c) (m, d) site clock many = (List.range many.toNat).map fun (i : Nat) => ((betweenGap (l, c) (m, d) site many).path ++ [((betweenGap (l, c) (m, d) site many).least + (i : Int), site)], clock + (i : Int)) := rfl
    have hbg : betweenGap (l, c) (m, d) site many = if (findG l m site).most - (findG l m site).least + 1 < many then ⟨(findG l m site).path ++ [((findG l m site).least, site)], 1, 200⟩ else findG l m site := rfl
    obtain ⟨g1, g2, _, _⟩ := hga
    simp only at hla hlb
    have g3 : (findG l m site).path.length ≤ 8 := by omega
    generalize findG l m site = gp at hfi hbg g1 g2 g3
    obtain ⟨p, lo, hi⟩ := gp
    simp only at hbg g1 g2 g3
    obtain ⟨g4, g5, g6⟩ := g1
    obtain ⟨s1, s2⟩ := hs
    obtain ⟨k1, k2⟩ := hcl
    obtain ⟨m1, m2⟩ := hma
    have HFI := Lib.hid hfi
    have HBE := Lib.hid hbe
    have HBG := Lib.hid hbg
    clear hfi hbe hbg hl hmm b1 b2 ra rb lb hc hm g2
    rw [h0] at HFR
    rw [h0]
    clear t0 h0
    obtain ⟨i0, hi0, hz0, hz1, hz2⟩ := info_parts info_step
    have HI := Lib.hid hi0
    have HZ0 := Lib.hid hz0
    have HZ1 := Lib.hid hz1
    have HZ2 := Lib.hid hz2
    clear hi0 hz0 hz1 hz2
    obtain ⟨i1, hi1, hy0, hy1, hy2⟩ := info_parts info_mark
    have HJ := Lib.hid hi1
    have HY0 := Lib.hid hy0
    have HY1 := Lib.hid hy1
    have HY2 := Lib.hid hy2
    clear hi1 hy0 hy1 hy2
    go_enter Tryz.func49, Tryz.ntmps49
    go_upto_if 39 with (first
      | (go_at_call 90; ((with_reducible refine (HFR.out _ extA).mono ?_); rintro e w1 ⟨rfl, hx1⟩; have c10 := (hx1.cells w.heap.size 0 (by simp <;> omega)).trans (show _ = some (.slice a1 l.length c1) by go_simp); have c20 := (hx1.cells (w.heap.size + 1) 0 (by simp <;> omega)).trans (show _ = some (.slice a2 m.length c2) by go_simp); have hz1 := hx1.size; (try simp at hz1); have HX1 := Lib.hid hx1; clear hx1))
      | (go_at_call 91; go_must ((with_reducible refine (HFI.out _ (by repeat (first | (with_reducible exact ext_refl _) | (with_reducible refine ext_drew ?_) | (with_reducible refine ext_drewN ?_ _) | (with_reducible refine ext_alloc ?_ _) | (with_reducible refine ext_set ?_ (by first | omega | (simp <;> omega)) _) | (with_reducible refine ext_call ?_ HX1.out)))).mono ?_); rintro e w2 ⟨v2, rfl, hv2, hx2⟩; obtain ⟨a3, n3, c3, rfl⟩ := hv2.slice; obtain ⟨rfl, q3, q3'⟩ := hv2.len; have hz2 := hx2.size; have HV2 := Lib.hid hv2; have HX2 := Lib.hid (ext_call HX1.out hx2); clear hx2 hv2)))
    go_cut [13] from 39 (fun g wc => g = .pointer (some ⟨w2.heap.size, 0, none⟩) ∧ ∃ (pa : Option Addr) (pn pc : Nat) (p' : List Stp) (lo' : Int), Hid ((betweenGap (l, c) (m, d) site many).path = p' ∧ (betweenGap (l, c) (m, d) site many).least = lo') ∧ wc.cell? ⟨w2.heap.size, 0, none⟩ = some (.slice pa pn pc) ∧ wc.cell? ⟨w2.heap.size, 1, none⟩ = some (.int .i64 lo') ∧
      Hid (RSl RStp 2 (fun _ => True) wc (.slice pa pn pc) p') ∧ Ext w wc ∧ p'.length ≤ 9 ∧ 1 ≤ lo' ∧ lo' + many ≤ 201 ∧ w2.heap.size < wc.heap.size)
    case first =>
      by_cases hw : hi - lo + 1 < many
      · have t1 : decide (hi - lo + 1 < many) = true := decide_eq_true hw
        have HG := Lib.hid (show betweenGap (l, c) (m, d) site many = ⟨p ++ [(lo, site)], 1, 200⟩ by rw [HBG.out, if_pos hw])
        go_wp2_with fail
        have HCL := Lib.hid (fun (W : World) (hx : Ext (w2.alloc (.cells #[.slice a3 p.length c3, .int .i64 lo, .int .i64 hi] 133)) W) => cloneSteps_any (HV2.out.ext gStp (ext_trans (ext_alloc (ext_refl _) _) hx)) (by omega))
        go_region_law (first
          | ((refine step_appAll gStp rfl (.tmp 42) (.tmp 47) 45 rfl (w2.heap.size + 1) 112 i0 _ 2 16 Tryz.underlying45 HI.out HZ0.out HZ1.out HZ2.out rfl (by omega) (F := fun _ => True) _ p rfl (osl_ext gStp HV3.out (by repeat (first | (with_reducible exact ext_refl _) | (with_reducible refine ext_drew ?_) | (with_reducible refine ext_drewN ?_ _) | (with_reducible refine ext_alloc ?_ _) | (with_reducible refine ext_set ?_ (by first | omega | (simp <;> omega)) _)))) _ [(lo, site)] rfl (row1 (by first | assumption | go_simp) (by first | assumption | go_simp) (i64_small (by omega) (by omega)) (i64_small (by omega) (by omega)) (by first | omega | (simp <;> omega))) one_stp (fun k hk _ => ⟨trivial, fun e => by have := HO3.out k e.symm; simp at this; omega⟩) (by simp only [maxLen, List.length_cons, List.length_nil]; omega) (by simp only [List.length_cons, List.length_nil]; omega) (by first | omega | (simp <;> omega)) ?_); intro v4 w4 hown4 hg4 hat4; obtain ⟨a5, n5, c5, rfl⟩ := osl_slice hown4; have hxg : Ext (w2.alloc (.cells #[.slice a3 p.length c3, .int .i64 lo, .int .i64 hi] 133)) w4 := ext_grow (by repeat (first | (with_reducible exact ext_refl _) | (with_reducible refine ext_drew ?_) | (with_reducible refine ext_drewN ?_ _) | (with_reducible refine ext_alloc ?_ _) | (with_reducible refine ext_set ?_ (by first | omega | (simp <;> omega)) _) | (with_reducible refine ext_call ?_ hx3))) hg4 (fun k hk => by have := (HO3.out k hk).1; simp at this ⊢; omega); have zg0 := (hxg.cells (w2.heap.size) 0 (by simp <;> omega)).trans (show _ = some (.slice a3 p.length c3) by go_simp); have zg1 := (hxg.cells (w2.heap.size) 1 (by simp <;> omega)).trans (show _ = some (.int .i64 lo) by go_simp); have zg2 := (hxg.cells (w2.heap.size) 2 (by simp <;> omega)).trans (show _ = some (.int .i64 hi) by go_simp); have zf0 := (hxg.frz (w2.heap.size) 0 (by simp <;> omega)).trans (show _ = false by go_simp); have zf1 := (hxg.frz (w2.heap.size) 1 (by simp <;> omega)).trans (show _ = false by go_simp); have zf2 := (hxg.frz (w2.heap.size) 2 (by simp <;> omega)).trans (show _ = false by go_simp); have hz4 := hxg.size; (try simp at hz4); have HV4 := Lib.hid hown4; have HX4 := Lib.hid hxg; clear hown4 hg4 hat4 hx3)
          | (go_simp; go_at_call 92; go_must ((with_reducible refine (HCL.out _ (by repeat (first | (with_reducible exact ext_refl _) | (with_reducible refine ext_drew ?_) | (with_reducible refine ext_drewN ?_ _) | (with_reducible refine ext_alloc ?_ _) | (with_reducible refine ext_set ?_ (by first | omega | (simp <;> omega)) _)))).mono ?_); rintro e w3 ⟨v3, rfl, hv3, hx3⟩; obtain ⟨a4, n4, c4, rfl⟩ := osl_slice hv3; have HV3 := Lib.hid (osl_base (base' := w2.heap.size + 1) (by simp <;> omega) hv3); have HO3 := Lib.hid (osl_lt hv3); have hz3 := hx3.size; (try simp at hz3); have cc0 := (hx3.cells w2.heap.size 0 (by simp <;> omega)).trans (show _ = some (.slice a3 p.length c3) by go_simp); have cc1 := (hx3.cells w2.heap.size 1 (by simp <;> omega)).trans (show _ = some (.int .i64 lo) by go_simp); (try (refine with_fact ((hx3.cells (w2.heap.size + 1) 0 ?_).trans (?_ : _ = some (.int .i64 lo))) (fun cr0 => ?_); (· simp); (· go_simp))); (try (refine with_fact ((hx3.cells (w2.heap.size + 1) 1 ?_).trans (?_ : _ = some (.int .i64 site))) (fun cr1 => ?_); (· simp); (· go_simp))); clear hv3)))
        all_goals (go_wp2_with fail; go_meet)
        all_goals (refine ⟨rfl, a5, n5, c5, p ++ [(lo, site)], 1, by rw [HG.out]; exact ⟨rfl, rfl⟩, by go_simp, by go_simp, ?_, ?_, by simp; omega, by omega, by omega, by simp; omega⟩)
        all_goals first
          | exact RSl.more gStp (fun _ _ _ => trivial) (RSl.keep gStp (F := fun k => k ≠ w2.heap.size) (keeps_set (keeps_set (keeps_set keeps_refl (fun _ h => h rfl) _) (fun _ h => h rfl) _) (fun _ h => h rfl) _) (osl_rsl gStp (osl_any leaf_stp (G := fun _ => False) HV4.out) (fun _ h _ => h.elim) (fun k hk => by omega)))
          | exact (by repeat (first | (with_reducible exact ext_refl _) | (with_reducible refine ext_drew ?_) | (with_reducible refine ext_drewN ?_ _) | (with_reducible refine ext_alloc ?_ _) | (with_reducible refine ext_set ?_ (by first | omega | (simp <;> omega)) _) | (with_reducible refine ext_call ?_ HX4.out) | (with_reducible refine ext_call ?_ HX2.out)))
      · have t1 : decide (hi - lo + 1 < many) = false := decide_eq_false hw
        have HG := Lib.hid (show betweenGap (l, c) (m, d) site many = ⟨p, lo, hi⟩ by rw [HBG.out, if_neg hw])
        go_wp2_with fail
        go_meet
        refine ⟨rfl, a3, p.length, c3, p, lo, by rw [HG.out]; exact ⟨rfl, rfl⟩, by go_simp, by go_simp, (HV2.out.ext gStp (ext_alloc (ext_refl _) _)).more gStp (fun _ _ _ => trivial), ext_alloc (ext_trans (ext_alloc (ext_alloc (ext_refl _) _) _) HX2.out) _, by omega, by omega, by omega, by simp⟩
    case rest =>
      obtain ⟨rfl, a4, n4, c4, p', lo', hgap, e0, e1, HP, HXC, b1, b2, b3, b4⟩ := hcut
      obtain ⟨rfl, _, _⟩ := HP.out.len
      have HL := Lib.hid (show betweenL (l, c) (m, d) site clock many = (List.range many.toNat).map fun (i : Nat) => (p' ++ [(lo' + (i : Int), site)], clock + (i : Int)) by rw [HBE.out, hgap.out.1, hgap.out.2])
      go_wp2_with fail
      go_loopw [14, 51] (fun v i wr => ∃ k : Nat, k ≤ many.toNat ∧ i = .int .i64 k ∧ Hid (OSl RMk 2 47 wc.heap.size (fun k => wc.heap.size ≤ k) wr v ((List.range k).map fun (i : Nat) => (p' ++ [(lo' + (i : Int), site)], clock + (i : Int)))) ∧ Ext wc wr) (fun _ i _ => many.toNat - (intOf i).toNat)
      case atStart => exact ⟨0, by omega, rfl, osl_nil, ext_refl _⟩
      case round =>
        obtain ⟨k, hk, rfl, hv, hx⟩ := hrel
        obtain ⟨a6, n6, c6, rfl⟩ := osl_slice hv.out
        have HX := Lib.hid hx
        have e2 := (hx.cells w2.heap.size 0 b4).trans e0
        have e3 := (hx.cells w2.heap.size 1 b4).trans e1
        have hsw := hx.size
        have hn1 : ¬ w2.heap.size = wr.heap.size := by omega
        have hn2 : ¬ wr.heap.size = w2.heap.size := by omega
        have hn3 : w2.heap.size < wr.heap.size := by omega
        clear hx
        by_cases h1 : (k : Int) < many
        · have t2 : decide ((k : Int) < many) = true := decide_eq_true h1
          have HCL := Lib.hid (fun (W : World) (hx : Ext wr W) => cloneSteps_any (HP.out.ext gStp (ext_trans HX.out hx)) (by omega))
          have HW1 := Lib.hid (show IntKind.i64.wrap (lo' + (k : Int)) = lo' + (k : Int) from IntWalk.i64_in _ (by omega))
          go_wp2_with fail
          have hw1 := HW1.out
          go_region_law (first
            | ((refine step_appAll gStp rfl (.tmp 56) (.tmp 63) 45 rfl wr.heap.size 112 i0 _ 2 16 Tryz.underlying45 HI.out HZ0.out HZ1.out HZ2.out rfl (by omega) (F := fun _ => True) _ p' rfl (osl_ext gStp HV5.out (by repeat (first | (with_reducible exact ext_refl _) | (with_reducible refine ext_drew ?_) | (with_reducible refine ext_drewN ?_ _) | (with_reducible refine ext_alloc ?_ _) | (with_reducible refine ext_set ?_ (by first | omega | (simp <;> omega)) _)))) _ [(lo' + (k : Int), site)] rfl (row1 (by first | assumption | go_simp) (by first | assumption | go_simp) (i64_small (by omega) (by omega)) (i64_small (by omega) (by omega)) (by first | omega | (simp <;> omega))) one_stp (fun j hj _ => ⟨trivial, fun e => by have := HO5.out j e.symm; simp at this; omega⟩) (by simp only [maxLen, List.length_cons, List.length_nil]; omega) (by simp only [List.length_cons, List.length_nil]; omega) (by first | omega | (simp <;> omega)) ?_); intro v6 w6 hown6 hg6 hat6; obtain ⟨a8, n8, c8, rfl⟩ := osl_slice hown6; have hxg : Ext wr w6 := ext_grow (by repeat (first | (with_reducible exact ext_refl _) | (with_reducible refine ext_drew ?_) | (with_reducible refine ext_drewN ?_ _) | (with_reducible refine ext_alloc ?_ _) | (with_reducible refine ext_set ?_ (by first | omega | (simp <;> omega)) _) | (with_reducible refine ext_call ?_ hx5))) hg6 (fun j hj => by have := (HO5.out j hj).1; simp at this ⊢; omega); have hz6 := hxg.size; have HV6 := Lib.hid hown6; have HX6 := Lib.hid hxg; clear hown6 hg6 hat6 hx5 hxg)
            | (go_simp; go_at_call 92; go_must ((with_reducible refine (HCL.out _ (by repeat (first | (with_reducible exact ext_refl _) | (with_reducible refine ext_drew ?_) | (with_reducible refine ext_drewN ?_ _) | (with_reducible refine ext_alloc ?_ _) | (with_reducible refine ext_set ?_ (by first | omega | (simp <;> omega)) _)))).mono ?_); rintro e w5 ⟨v5, rfl, hv5, hx5⟩; obtain ⟨a7, n7, c7, rfl⟩ := osl_slice hv5; have HV5 := Lib.hid (osl_base (base' := wr.heap.size) (by simp <;> omega) hv5); have HO5 := Lib.hid (osl_lt hv5); have hz5 := hx5.size; (try simp at hz5); have cc1 := (hx5.cells w2.heap.size 1 (by simp <;> omega)).trans (show _ = some (.int .i64 lo') by go_simp); (try (refine with_fact ((hx5.cells wr.heap.size 0 ?_).trans (?_ : _ = some (.int .i64 (lo' + (k : Int))))) (fun cr0 => ?_); (· simp); (· go_simp))); (try (refine with_fact ((hx5.cells wr.heap.size 1 ?_).trans (?_ : _ = some (.int .i64 site))) (fun cr1 => ?_); (· simp); (· go_simp))); clear hv5)))
          all_goals clear hw1
          all_goals (have HM6 : ∀ W, Ext w6 W → RMk (fun j => wr.heap.size ≤ j) W [.slice a8 n8 c8, .int .i64 (clock + (k : Int))] (p' ++ [(lo' + (k : Int), site)], clock + (k : Int)) := fun W hW => ⟨_, rfl, (osl_rsl gStp (osl_any leaf_stp (G := fun _ => False) HV6.out) (fun _ h _ => h.elim) (fun j hj => hj)).ext gStp hW, i64_small (by simp only []; omega) (by simp only []; omega)⟩)
          all_goals go_wp2_with (at_builtin; go_must (refine wpList_app1 gMk rfl (.tmp 65) (.tmp 71) 23 rfl wc.heap.size 47 i1 _ 2 32 Tryz.underlying23 HJ.out HY0.out HY1.out HY2.out rfl (by omega) (F := fun k => wc.heap.size ≤ k) (G := fun k => wr.heap.size ≤ k) (.slice a6 n6 c6) ((List.range k).map fun (i : Nat) => (p' ++ [(lo' + (i : Int), site)], clock + (i : Int))) rfl (osl_ext gMk hv.out (ext_alloc HX6.out _)) w6.heap.size 0 1 [.slice a8 n8 c8, .int .i64 (clock + (k : Int))] (p' ++ [(lo' + (k : Int), site)], clock + (k : Int)) rfl rfl (rangeAt2 (by go_simp) (by go_simp)) (one_mk (fun j => wr.heap.size ≤ j) (w6.alloc (.cells #[.slice a8 n8 c8, .int .i64 (clock + (k : Int))] 47)) [.slice a8 n8 c8, .int .i64 (clock + (k : Int))] (p' ++ [(lo' + (k : Int), site)], clock + (k : Int)) (HM6 (w6.alloc (.cells #[.slice a8 n8 c8, .int .i64 (clock + (k : Int))] 47)) (ext_alloc (ext_refl _) _))) (HM6 (w6.alloc (.cells #[.slice a8 n8 c8, .int .i64 (clock + (k : Int))] 47)) (ext_alloc (ext_refl _) _)) (fun j hj _ => ⟨by omega, fun e => by have := (osl_lt hv.out j e.symm).2; omega⟩) (by simp only [List.length_map, List.length_range, maxLen]; omega) (by simp only [List.length_map, List.length_range]; omega) (by first | omega | (simp <;> omega)) ?_; intro v9 w9 hown9 hg9 hat9; have hx9 : Ext wc w9 := ext_grow (ext_alloc (ext_trans HX.out HX6.out) _) hg9 (fun j hj => (osl_lt hv.out j hj).1); have HV9 := Lib.hid hown9; have HX9 := Lib.hid hx9; clear hown9 hg9 hat9 hx9))
          all_goals go_roundw
          all_goals first
            | exact ⟨k + 1, by omega, by go_num, Lib.hid (by rw [List.range_succ, List.map_append]; exact HV9.out), HX9.out⟩
            | (simp [intOf]; omega)
        · have t2 : decide ((k : Int) < many) = false := decide_eq_false h1
          have hkm : k = many.toNat := by omega
          go_wp2_with fail
          refine bodyPost_ret (v := .tuple #[.slice a6 n6 c6, .int .i64 0]) (by simp [results, Tryz.results49, go_sem]) rfl ⟨_, rfl, ?_, ext_trans HXC HX.out⟩
          rw [HL.out, ← hkm]
          exact osl_rsl gMk hv.out (fun j hj _ => Nat.le_trans HXC.size hj) (fun j hj => Nat.le_trans HXC.size hj)
  · rw [if_neg h0]
    have t0 : (betweenErr (l, c) (m, d) site clock many != 0) = true := by simpa using h0
    clear hl hmm
    clear h0
    go_enter Tryz.func49, Tryz.ntmps49
    go_wp2_with (go_at_call 90; ((with_reducible refine (HFR.out _ extA).mono ?_); rintro e w1 ⟨rfl, hx1⟩; have hc1 := hx1.cells; have hz1 := hx1.size; (try simp at hz1); have hb1_0 : w.heap.size < w1.heap.size := (by omega); have hb1_1 : w.heap.size + 1 < w1.heap.size := (by omega)))
    refine bodyPost_ret (v := .tuple #[.slice none 0 0, .int .i64 (betweenErr (l, c) (m, d) site clock many)]) (by simp [results, Tryz.results49, go_sem]) rfl ⟨_, rfl, RSl.nil_ (Nat.zero_le _), extA⟩
end Go.Proofs.YtfgfdohppgoajaaGreat
/- A deed, a note, and what must be in any case of what was seen. -/
namespace Go.Proofs.YtfgfdohppgoajaaGreat
open Go Go.RowKit Go.BigFrame Cp

theorem rangeAt_cons {w : World} {b o : Nat} {x : Value} {xs : List Value} (h : w.cell? ⟨b, o, none⟩ = some x) (k : w.rangeAt b (o + 1) xs) : w.rangeAt b o (x :: xs) := by
  intro j v hv
  cases j with
  | zero => have : x = v := by simpa using hv
            subst this; exact h
  | succ j =>
    have := k j v (by simpa using hv)
    rwa [show o + 1 + j = o + (j + 1) by omega] at this
theorem rangeAt_nil {w : World} {b o : Nat} : w.rangeAt b o [] := by intro j v hv; simp at hv
theorem rd_one {α : Type} {R : Rd α} {sz : Nat} {F : Nat → Prop} {w : World} {b c : Nat} {cs : List Value} {x : α} (hc : cs.length = sz) (hr : w.rangeAt b 0 cs) (hx : R F w cs x) (hF : F b) (hb : b < w.heap.size) (h1 : 1 ≤ c) (h2 : c ≤ maxLen) :
    RSl R sz F w (.slice (some ⟨b, 0, none⟩) 1 c) [x] := by
  refine ⟨_, c, rfl, h1, h2, fun _ => ⟨b, 0, rfl, hF, hb, fun i y hi => ?_⟩⟩
  cases i with
  | zero =>
    have : x = y := by simpa using hi
    subst this
    exact ⟨cs, hc, by simpa using hr, hx⟩
  | succ i => simp at hi
theorem five_at {F : Nat → Prop} {W : World} {r c : Nat} {x0 x1 x2 x3 x4 : Int} (z0 : W.cell? ⟨r, 0, none⟩ = some (.int .i64 x0)) (z1 : W.cell? ⟨r, 1, none⟩ = some (.int .i64 x1)) (z2 : W.cell? ⟨r, 2, none⟩ = some (.int .i64 x2))
    (z3 : W.cell? ⟨r, 3, none⟩ = some (.int .i64 x3)) (z4 : W.cell? ⟨r, 4, none⟩ = some (.int .i64 x4)) (hF : F r) (hr : r < W.heap.size) (hc : 5 ≤ c) (hc2 : c ≤ maxLen) (hi : ∀ x ∈ [x0, x1, x2, x3, x4], I64 x) :
    RSl RInt 1 F W (.slice (some ⟨r, 0, none⟩) 5 c) [x0, x1, x2, x3, x4] := by
  refine ⟨_, c, rfl, hc, hc2, fun _ => ⟨r, 0, rfl, hF, hr, fun i x hx => ?_⟩⟩
  have hm := hi x (List.mem_of_getElem? hx)
  rcases i with _ | _ | _ | _ | _ | i
  · obtain rfl : x0 = x := by simpa using hx
    exact ⟨[.int .i64 x0], rfl, rangeAt1 z0, rfl, hm⟩
  · obtain rfl : x1 = x := by simpa using hx
    exact ⟨[.int .i64 x1], rfl, rangeAt1 z1, rfl, hm⟩
  · obtain rfl : x2 = x := by simpa using hx
    exact ⟨[.int .i64 x2], rfl, rangeAt1 z2, rfl, hm⟩
  · obtain rfl : x3 = x := by simpa using hx
    exact ⟨[.int .i64 x3], rfl, rangeAt1 z3, rfl, hm⟩
  · obtain rfl : x4 = x := by simpa using hx
    exact ⟨[.int .i64 x4], rfl, rangeAt1 z4, rfl, hm⟩
  · simp at hx
def putD (t : Tx) : De := ⟨1, (([(3, 0)], 1), t), ([], 0), 0⟩
/-- a deed that puts a text, in new memory -/
def IsPutD (s : ByteArray) (w : World) (e : Ending) (w' : World) : Prop := ∃ a c, e = .returned (.agg #[.int .i64 1, .slice a 1 c, .int .i64 1, .string s, .slice none 0 0, .int .i64 0, .int .i64 0]) ∧
  RDe (fun k => w.heap.size ≤ k) w' [.int .i64 1, .slice a 1 c, .int .i64 1, .string s, .slice none 0 0, .int .i64 0, .int .i64 0] (putD s.data.toList) ∧ Ext w w'
theorem with_fact' {T G : Prop} (h : T) (k : T → G) : G := k h
set_option maxRecDepth 100000 in
set_option maxHeartbeats 4000000 in
theorem putD_any (s : ByteArray) (hs : s.size ≤ 140737488351232) (w : World) : Calls Tryz.prog 38 #[.string s] w (IsPutD s w) := by
  go_enter Tryz.func38, Tryz.ntmps38
  go_wp2_with (go_at_call 25; ((with_reducible refine (at_any 3 0 1 (i64_small (by simp) (by simp)) (i64_small (by simp) (by simp)) (i64_small (by simp) (by simp)) _).mono ?_); rintro e' w1 ⟨cs1, rfl, hm1, hx1⟩; obtain ⟨v1, rfl, hv1, hi1⟩ := hm1; obtain ⟨a1, n1, c1, rfl⟩ := hv1.slice; obtain rfl : n1 = 1 := hv1.len.1; have HV1 := Lib.hid hv1; clear hv1 hi1; have hz1 := hx1.size; (try simp at hz1); have hb1 : w.heap.size < w1.heap.size := (by omega); have r0 := (hx1.cells (w.heap.size) (0) (by first | omega | (simp <;> omega))).trans (show _ = some (.int .i64 0) by first | assumption | go_simp); have r1 := (hx1.cells (w.heap.size) (1) (by first | omega | (simp <;> omega))).trans (show _ = some (.slice none 0 0) by first | assumption | go_simp); have r2 := (hx1.cells (w.heap.size) (2) (by first | omega | (simp <;> omega))).trans (show _ = some (.int .i64 0) by first | assumption | go_simp); have r3 := (hx1.cells (w.heap.size) (3) (by first | omega | (simp <;> omega))).trans (show _ = some (.string ⟨#[]⟩) by first | assumption | go_simp); have r4 := (hx1.cells (w.heap.size) (4) (by first | omega | (simp <;> omega))).trans (show _ = some (.slice none 0 0) by first | assumption | go_simp); have r5 := (hx1.cells (w.heap.size) (5) (by first | omega | (simp <;> omega))).trans (show _ = some (.int .i64 0) by first | assumption | go_simp); have r6 := (hx1.cells (w.heap.size) (6) (by first | omega | (simp <;> omega))).trans (show _ = some (.int .i64 0) by first | assumption | go_simp); have rf0 := (hx1.frz (w.heap.size) (0) (by first | omega | (simp <;> omega))).trans (show _ = false by first | assumption | go_simp); have rf1 := (hx1.frz (w.heap.size) (1) (by first | omega | (simp <;> omega))).trans (show _ = false by first | assumption | go_simp); have rf2 := (hx1.frz (w.heap.size) (2) (by first | omega | (simp <;> omega))).trans (show _ = false by first | assumption | go_simp); have rf3 := (hx1.frz (w.heap.size) (3) (by first | omega | (simp <;> omega))).trans (show _ = false by first | assumption | go_simp); have rf4 := (hx1.frz (w.heap.size) (4) (by first | omega | (simp <;> omega))).trans (show _ = false by first | assumption | go_simp); have rf5 := (hx1.frz (w.heap.size) (5) (by first | omega | (simp <;> omega))).trans (show _ = false by first | assumption | go_simp); have rf6 := (hx1.frz (w.heap.size) (6) (by first | omega | (simp <;> omega))).trans (show _ = false by first | assumption | go_simp)))
  refine bodyPost_end (v := .agg #[.int .i64 1, .slice a1 1 c1, .int .i64 1, .string s, .slice none 0 0, .int .i64 0, .int .i64 0]) (by simp [results, Tryz.results38, go_sem, r0, r1, r2, r3, r4, r5, r6, rf0, rf1, rf2, rf3, rf4, rf5, rf6, hb1]) rfl ⟨a1, c1, rfl, rde_of (k := 1) (c := 1) (c2 := 0) (m := 0) (p := [(3, 0)]) (p2 := []) (t := s.data.toList) (i64_small (by simp) (by simp)) (RSl.more gStp (fun k hk _ => (show w.heap.size ≤ k by first | omega | (simp at hk; omega))) (HV1.out.keep gStp (by repeat (first | (with_reducible exact keeps_refl) | (with_reducible refine keeps_drew ?_) | (with_reducible refine keeps_alloc ?_ _) | (with_reducible refine keeps_set ?_ (by first | omega | (simp <;> omega)) _))))) (i64_small (by simp) (by simp)) ⟨by congr, by simpa using hs⟩ (RSl.nil_ (Nat.zero_le _)) (i64_small (by simp) (by simp)) (i64_small (by simp) (by simp)), extA⟩
def noteN : No := ⟨0, 1, [0, 0, 0, 0, 0], [putD [104, 105]]⟩
end Go.Proofs.YtfgfdohppgoajaaGreat
