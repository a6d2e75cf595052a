/- The mark so many behind one, by the reference. -/
import Derived.Test.YtfgfdohppgoajaaGreatQ474d344618
import Derived.IntWalk
import Derived.Test.YtfgfdohppgoajaaGreatQ5ab4d67304
import Derived.Deep.RegionHeld3
import Derived.Deep.RegionLaw
import Derived.Test.YtfgfdohppgoajaaGreatQ8ebb1f5718
set_option linter.unusedVariables false
set_option linter.unusedSimpArgs false
namespace Go.Proofs.YtfgfdohppgoajaaGreat
open Go Go.RowKit Cp

set_option maxRecDepth 100000 in
set_option maxHeartbeats 2000000 in
theorem afterOf_any {F : Nat → Prop} {w : World} {cs : List Value} {m : Mk} {k : Int} (h : RMk F w cs m) (hsz : m.1.length ≤ 8000000000000) (hne : m.1 ≠ [])
    (hd : 0 ≤ lastDigit m.1 ∧ lastDigit m.1 ≤ 1000) (hc : 0 ≤ m.2 ∧ m.2 ≤ 20000) (hk : 0 ≤ k ∧ k ≤ 1000) :
    Calls Tryz.prog 122 #[.agg cs.toArray, .int .i64 k] w (IsMark (afterM m k) w) := by
  obtain ⟨v, rfl, hl, hi64⟩ := h
  obtain ⟨l, c⟩ := m
  simp only at hl hsz hne hd hc ⊢
  obtain ⟨a1, n1, c1, rfl⟩ := hl.slice
  obtain ⟨rfl, _, _⟩ := hl.len
  have HL := Lib.hid (fun (W : World) (hx : Ext w W) => (hl.more gStp (G := fun k => k < w.heap.size) (fun _ _ hk => hk)).ext gStp hx)
  clear hl hi64
  have hlt : l.length - 1 < l.length := by
    have := List.length_pos_iff.2 hne
    omega
  obtain ⟨c0, c2⟩ := hc
  obtain ⟨k0, k2⟩ := hk
  have HD := Lib.hid hd
  clear hd
  obtain ⟨i0, hi, hz0, hz1, hz2⟩ := info_parts info_step
  have HI := Lib.hid hi
  have HZ0 := Lib.hid hz0
  have HZ1 := Lib.hid hz1
  have HZ2 := Lib.hid hz2
  clear hi hz0 hz1 hz2
  go_enter Tryz.func122, Tryz.ntmps122
  have hwr : IntKind.i64.wrap (c + k) = c + k := IntWalk.i64_in _ (by omega)
  go_wp2_with fail
  go_region_held3 (fun W => W.cell? ⟨w.heap.size, 0, none⟩ = some (.slice a1 l.length c1) ∧ W.cell? ⟨w.heap.size, 1, none⟩ = some (.int .i64 c))
    (first | go_keep | ((try dsimp only); (repeat' apply And.intro); all_goals first | go_keep | (go_simp; done) | (rw [hxg.cells _ _ (by simp <;> omega)]; go_simp)))
    (first
      | ((refine step_appAll gStp rfl (.tmp 6) (.tmp 8) 45 rfl (w.heap.size + 2) 112 i0 _ 2 16 Tryz.underlying45 HI.out HZ0.out HZ1.out HZ2.out rfl (by omega) (F := fun k => k < w.heap.size) (G := fun k => k < w.heap.size) (.slice (some ⟨w.heap.size + 1 + 1, 0, none⟩) 0 0) [] rfl ?_ _ l rfl (HL.out _ (by repeat (first | exact ext_refl _ | refine ext_drew ?_ | refine ext_drewN ?_ _ | refine ext_alloc ?_ _ | refine ext_set ?_ (by simp <;> omega) _))) one_stp (fun k hk _ => ⟨hk, ne_own (by first | omega | (simp <;> omega) | (simp only [maxLen, List.length_nil] <;> omega))⟩) (by first | omega | (simp <;> omega) | (simp only [maxLen, List.length_nil] <;> omega)) (by first | omega | (simp <;> omega) | (simp only [maxLen, List.length_nil] <;> omega)) (by first | omega | (simp <;> omega) | (simp only [maxLen, List.length_nil] <;> omega)) ?_; (· first | exact osl_ext gStp (osl_newAt (by first | omega | (simp <;> omega) | (simp only [maxLen, List.length_nil] <;> omega)) (by first | omega | (simp <;> omega) | (simp only [maxLen, List.length_nil] <;> omega))) (ext_drew (ext_refl _)) | exact osl_ext gStp (osl_newAt (by first | omega | (simp <;> omega) | (simp only [maxLen, List.length_nil] <;> omega)) (by first | omega | (simp <;> omega) | (simp only [maxLen, List.length_nil] <;> omega))) (ext_drew (ext_alloc (ext_refl _) _))); intro v1 w1 hown1 hg1 hat1; have hxg : Ext ((w.alloc (.cells #[.slice a1 l.length c1, .int .i64 c] 47)).alloc (.cells #[.slice none 0 0, .int .i64 0] 47)) w1 := ext_grow (by repeat (first | exact ext_refl _ | refine ext_drew ?_ | refine ext_drewN ?_ _ | refine ext_alloc ?_ _ | refine ext_set ?_ (by simp <;> omega) _)) hg1 (fun k hk => by have := own_eq hk; simp <;> omega); have hs1 : w.heap.size + 1 < w1.heap.size := (by have := hxg.size; simp at this; omega); have hne1 : ¬ w1.heap.size = w.heap.size := (by omega); have hne2 : ¬ w.heap.size = w1.heap.size := (by omega); have zb0 := (hxg.cells w.heap.size 0 (by simp <;> omega)).trans (show _ = some (.slice a1 l.length c1) by go_simp); have zb1 := (hxg.cells w.heap.size 1 (by simp <;> omega)).trans (show _ = some (.int .i64 c) by go_simp); have hq1 := grown_cells hg1; have hq2 := grown_frz hg1; simp only [List.nil_append] at hown1; obtain ⟨a3, n3, c3, rfl⟩ := osl_slice hown1; obtain ⟨g3, s3, cs2, rfl, rfl, hg3, hg3', e3, _, hr3, hs3, hf3⟩ := osl_at hown1 hlt; obtain ⟨x3, y3⟩ := s3; obtain ⟨rfl, ix, iy⟩ := hs3; have z6 := hr3 0 _ rfl; have z7 := hr3 1 _ rfl; have z8 := hf3 ((l.length - 1) * 2); simp only [Nat.add_zero] at z6 z7; have hd1 : 0 ≤ x3 := (lastDigit_at e3) ▸ HD.out.1; have hd2 : x3 ≤ 1000 := (lastDigit_at e3) ▸ HD.out.2; have HV1 := Lib.hid hown1; have HE3 := Lib.hid e3; have HG1 := Lib.hid hg1; have y0 := (hxg.cells (w.heap.size + 1) 0 (by simp <;> omega)).trans (show _ = some (.slice none 0 0) by go_simp); have y1 := (hxg.cells (w.heap.size + 1) 1 (by simp <;> omega)).trans (show _ = some (.int .i64 0) by go_simp); have y2 := (hxg.frz (w.heap.size + 1) 0 (by simp <;> omega)).trans (show _ = false by go_simp); have y3f := (hxg.frz (w.heap.size + 1) 1 (by simp <;> omega)).trans (show _ = false by go_simp); have hn1 : ¬ g3 = w.heap.size + 1 := (by omega); have hn2 : ¬ w.heap.size + 1 = g3 := (by omega); have hn3 : ¬ g3 = w1.heap.size := (by omega); simp [Value.ownBlock] at hat1; (try have hn5 : ¬ g3 = w.heap.size + 1 + 1 + 1 := (by omega)); (try have hn6 : ¬ w.heap.size + 1 + 1 + 1 = g3 := (by omega)); clear hown1 e3 hr3 hf3 hg1 hat1))
      | ((refine step_appAll gStp rfl (.tmp 6) (.tmp 8) 45 rfl (w.heap.size + 2) 112 i0 _ 2 16 Tryz.underlying45 HI.out HZ0.out HZ1.out HZ2.out rfl (by omega) (F := fun k => k < w.heap.size) (G := fun k => k < w.heap.size) (.slice (some ⟨w.heap.size + 1 + 1 + 1, 0, none⟩) 0 0) [] rfl ?_ _ l rfl (HL.out _ (by repeat (first | exact ext_refl _ | refine ext_drew ?_ | refine ext_drewN ?_ _ | refine ext_alloc ?_ _ | refine ext_set ?_ (by simp <;> omega) _))) one_stp (fun k hk _ => ⟨hk, ne_own (by first | omega | (simp <;> omega) | (simp only [maxLen, List.length_nil] <;> omega))⟩) (by first | omega | (simp <;> omega) | (simp only [maxLen, List.length_nil] <;> omega)) (by first | omega | (simp <;> omega) | (simp only [maxLen, List.length_nil] <;> omega)) (by first | omega | (simp <;> omega) | (simp only [maxLen, List.length_nil] <;> omega)) ?_; (· first | exact osl_ext gStp (osl_newAt (by first | omega | (simp <;> omega) | (simp only [maxLen, List.length_nil] <;> omega)) (by first | omega | (simp <;> omega) | (simp only [maxLen, List.length_nil] <;> omega))) (ext_drew (ext_refl _))); intro v1 w1 hown1 hg1 hat1; have hxg : Ext ((w.alloc (.cells #[.slice a1 l.length c1, .int .i64 c] 47)).alloc (.cells #[.slice none 0 0, .int .i64 0] 47)) w1 := ext_grow (by repeat (first | exact ext_refl _ | refine ext_drew ?_ | refine ext_drewN ?_ _ | refine ext_alloc ?_ _ | refine ext_set ?_ (by simp <;> omega) _)) hg1 (fun k hk => by have := own_eq hk; simp <;> omega); have hs1 : w.heap.size + 1 < w1.heap.size := (by have := hxg.size; simp at this; omega); have hne1 : ¬ w1.heap.size = w.heap.size := (by omega); have hne2 : ¬ w.heap.size = w1.heap.size := (by omega); have zb0 := (hxg.cells w.heap.size 0 (by simp <;> omega)).trans (show _ = some (.slice a1 l.length c1) by go_simp); have zb1 := (hxg.cells w.heap.size 1 (by simp <;> omega)).trans (show _ = some (.int .i64 c) by go_simp); have hq1 := grown_cells hg1; have hq2 := grown_frz hg1; simp only [List.nil_append] at hown1; obtain ⟨a3, n3, c3, rfl⟩ := osl_slice hown1; obtain ⟨g3, s3, cs2, rfl, rfl, hg3, hg3', e3, _, hr3, hs3, hf3⟩ := osl_at hown1 hlt; obtain ⟨x3, y3⟩ := s3; obtain ⟨rfl, ix, iy⟩ := hs3; have z6 := hr3 0 _ rfl; have z7 := hr3 1 _ rfl; have z8 := hf3 ((l.length - 1) * 2); simp only [Nat.add_zero] at z6 z7; have hd1 : 0 ≤ x3 := (lastDigit_at e3) ▸ HD.out.1; have hd2 : x3 ≤ 1000 := (lastDigit_at e3) ▸ HD.out.2; have HV1 := Lib.hid hown1; have HE3 := Lib.hid e3; have HG1 := Lib.hid hg1; have y0 := (hxg.cells (w.heap.size + 1) 0 (by simp <;> omega)).trans (show _ = some (.slice none 0 0) by go_simp); have y1 := (hxg.cells (w.heap.size + 1) 1 (by simp <;> omega)).trans (show _ = some (.int .i64 0) by go_simp); have y2 := (hxg.frz (w.heap.size + 1) 0 (by simp <;> omega)).trans (show _ = false by go_simp); have y3f := (hxg.frz (w.heap.size + 1) 1 (by simp <;> omega)).trans (show _ = false by go_simp); have hn1 : ¬ g3 = w.heap.size + 1 := (by omega); have hn2 : ¬ w.heap.size + 1 = g3 := (by omega); have hn3 : ¬ g3 = w1.heap.size := (by omega); simp [Value.ownBlock] at hat1; (try have hn5 : ¬ g3 = w.heap.size + 1 + 1 := (by omega)); (try have hn6 : ¬ w.heap.size + 1 + 1 = g3 := (by omega)); clear hown1 e3 hr3 hf3 hg1 hat1)))
  all_goals go_wp2
  all_goals refine bodyPost_end (v := .agg #[.slice (some ⟨g3, 0, none⟩) l.length c3, .int .i64 (c + k)]) (by simp [results, Tryz.results122, go_sem, y0, y1, hs1, hn1]) rfl ⟨[.slice (some ⟨g3, 0, none⟩) l.length c3, .int .i64 (c + k)], rfl, ⟨_, rfl, ?_, ?_⟩, ?_⟩
  all_goals clear hwr
  all_goals first
    | (show OSl _ _ _ _ _ _ _ (addLast l k); rw [addLast_set HE3.out]; repeat (first | (with_reducible refine osl_lalloc lf_stp ?_ _) | ((with_reducible refine osl_lset lf_stp ?_ ?_ _); · first | assumption | omega | (simp <;> omega)) | ((with_reducible refine osl_put0 gStp ?_ hlt (by omega) (stp_put (x' := x3 + k) HE3.out (i64_small (by omega) (by omega))))) | (with_reducible exact osl_any leaf_stp (osl_base (by omega) HV1.out))))
    | exact i64_small (by simp only [afterM]; omega) (by simp only [afterM]; omega)
    | (repeat (first | (with_reducible exact ext_refl _) | (with_reducible refine ext_drew ?_) | (with_reducible refine ext_alloc ?_ _) | (with_reducible refine ext_set ?_ (by first | omega | (simp <;> omega)) _) | (with_reducible refine ext_call ?_ hxg)))
end Go.Proofs.YtfgfdohppgoajaaGreat
/- Next and NextOf: the mark so many behind one, with errors. -/
namespace Go.Proofs.YtfgfdohppgoajaaGreat
open Go Go.RowKit Cp

/-- a mark and an errno -/
def IsMarkE (m : Mk) (er : Int) (w : World) (e : Ending) (w' : World) : Prop := ∃ cs, e = .returned (.tuple #[.agg cs.toArray, .int .i64 er]) ∧ RMk (fun k => w.heap.size ≤ k) w' cs m ∧ Ext w w'
theorem check_len {m : Mk} (h : checkM m = 0) : m.1.length ≤ 8000000000000 := by have := (checkM_ok.1 h).1; omega
theorem check_ne {m : Mk} (h : checkM m = 0) : m.1 ≠ [] := (checkM_ok.1 h).2.1
theorem check_clock {m : Mk} (h : checkM m = 0) : 0 ≤ m.2 ∧ m.2 ≤ 20000 := by have := (checkM_ok.1 h).2.2.2.2; omega
theorem check_digit {m : Mk} (h : checkM m = 0) : 0 ≤ lastDigit m.1 ∧ lastDigit m.1 ≤ 1000 := by
  obtain ⟨_, h2, h3, _⟩ := checkM_ok.1 h
  obtain ⟨q, s, e⟩ := snoc_of h2
  rw [e] at h3 ⊢
  rw [any_snoc_badS, Bool.or_eq_false_iff] at h3
  rw [lastDigit_snoc]
  have := badS_ok.1 h3.2
  omega
theorem nextM_rng {m : Mk} {k : Int} (h0 : checkM m = 0) (h : k < 0 ∨ 60 < k) : (nextM m k).2 = 3 := by unfold nextM; rw [if_neg (by omega), if_pos h]
theorem nextM_bad {m : Mk} {k : Int} (h0 : checkM m = 0) (h1 : 0 ≤ k) (h2 : k ≤ 60) (h3 : ¬ checkM (afterM m k) = 0) : (nextM m k).2 = 3 := by unfold nextM; rw [if_neg (by omega), if_neg (by omega), if_pos h3]
theorem nextM_chk {m : Mk} {k : Int} (h0 : ¬ checkM m = 0) : (nextM m k).2 = checkM m := by unfold nextM; rw [if_pos h0]
theorem RMk_fin {F G : Nat → Prop} {w w' : World} {cs : List Value} {m : Mk} (h : RMk F w cs m) (hk : Keeps F w w') (hg : ∀ k, F k → G k) : RMk G w' cs m := gMk.more (fun k hk _ => hg k hk) (gMk.keep hk h)

set_option maxRecDepth 100000 in
set_option maxHeartbeats 1600000 in
theorem next_any {F : Nat → Prop} {w : World} {cs : List Value} {m : Mk} {k : Int} (h : RMk F w cs m) :
    Calls Tryz.prog 34 #[.agg cs.toArray, .int .i64 k] w (IsMarkE (nextM m k).1 (nextM m k).2 w) := by
  have HC := Lib.hid (fun (W : World) (hx : Ext w W) => check_any (gMk.ext h hx))
  have ha := fun (h0 : checkM m = 0) (h1 : 0 ≤ k) (h2 : k ≤ 60) (W : World) (hx : Ext w W) => after_any (k := k) (gMk.ext h hx) (check_len h0) (check_ne h0) (check_digit h0) (check_clock h0) ⟨h1, by omega⟩
  obtain ⟨v, rfl, hl, hi64⟩ := h
  obtain ⟨l, c⟩ := m
  simp only at hl ha ⊢
  obtain ⟨a1, n1, c1, rfl⟩ := hl.slice
  clear hl hi64
  by_cases h0 : checkM (l, c) = 0
  · by_cases h1 : k < 0
    · have t0 : (checkM (l, c) != 0) = false := (by rw [h0]; rfl)
      clear ha
      have HE := Lib.hid (show (nextM (l, c) k).2 = 3 from nextM_rng h0 (.inl h1))
      have HV := Lib.hid (show (nextM (l, c) k).1 = ([], 0) from nextM_err (by rw [nextM_rng h0 (.inl h1)]; decide))
      clear h0
      go_enter Tryz.func34, Tryz.ntmps34
      go_wp2_with (first
        | (go_at_call 58; ((with_reducible refine (HC.out _ (by repeat (first | (with_reducible exact ext_refl _) | (with_reducible refine ext_drew ?_) | (with_reducible refine ext_drewN ?_ _) | (with_reducible refine ext_alloc ?_ _) | (with_reducible refine ext_set ?_ (by first | omega | (simp <;> omega)) _)))).mono ?_); rintro e w1 ⟨rfl, hx1⟩; have m0 := (hx1.cells (w.heap.size) 0 (by simp <;> omega)).trans (show _ = some (.slice a1 n1 c1) by go_simp); have m1 := (hx1.cells (w.heap.size) 1 (by simp <;> omega)).trans (show _ = some (.int .i64 c) by go_simp); have r0 := (hx1.cells (w.heap.size + 1) 0 (by simp <;> omega)).trans (show _ = some (.slice none 0 0) by go_simp); have rf0 := (hx1.frz (w.heap.size + 1) 0 (by simp <;> omega)).trans (show _ = false by go_simp); have r1 := (hx1.cells (w.heap.size + 1) 1 (by simp <;> omega)).trans (show _ = some (.int .i64 0) by go_simp); have rf1 := (hx1.frz (w.heap.size + 1) 1 (by simp <;> omega)).trans (show _ = false by go_simp); have HX1 := Lib.hid hx1; have hs1 := hx1.size; simp at hs1; clear hx1))
        | (go_at_call 76; go_must ((with_reducible refine (HA.out _ (by repeat (first | (with_reducible exact ext_refl _) | (with_reducible refine ext_drew ?_) | (with_reducible refine ext_drewN ?_ _) | (with_reducible refine ext_alloc ?_ _) | (with_reducible refine ext_set ?_ (by first | omega | (simp <;> omega)) _) | (with_reducible refine ext_call ?_ HX1.out)))).mono ?_); rintro e w2 ⟨cs2, rfl, hm2, hx2⟩; have HM2 := Lib.hid (omk_mk hm2); obtain ⟨v2, rfl, hv2, _⟩ := hm2; obtain ⟨a3, n3, c3, rfl⟩ := osl_slice hv2; have hx3 := ext_call HX1.out hx2; have q0 := (hx3.cells (w.heap.size + 1) 0 (by simp <;> omega)).trans (show _ = some (.slice none 0 0) by go_simp); have qf0 := (hx3.frz (w.heap.size + 1) 0 (by simp <;> omega)).trans (show _ = false by go_simp); have q1 := (hx3.cells (w.heap.size + 1) 1 (by simp <;> omega)).trans (show _ = some (.int .i64 0) by go_simp); have qf1 := (hx3.frz (w.heap.size + 1) 1 (by simp <;> omega)).trans (show _ = false by go_simp); have HX3 := Lib.hid hx3; have hs2 := hx2.size; (try simp at hs2); clear hx2 hx3 hv2 m0 m1 r0 rf0 r1 rf1))
        | (go_at_call 58; go_must ((with_reducible refine (check_any (gMk.ext HM2.out (ext_alloc (ext_refl _) _))).mono ?_); rintro e w3 ⟨rfl, hx4⟩; have b0 := (hx4.cells w2.heap.size 0 (by simp <;> omega)).trans (show _ = some (.slice a3 n3 c3) by go_simp); have b1 := (hx4.cells w2.heap.size 1 (by simp <;> omega)).trans (show _ = some (.int .i64 (c + k)) by go_simp); have hx5 := ext_call (ext_call HX3.out (ext_alloc (ext_refl _) _)) hx4; clear q0 qf0 q1 qf1; have q0 := (hx5.cells (w.heap.size + 1) 0 (by simp <;> omega)).trans (show _ = some (.slice none 0 0) by go_simp); have qf0 := (hx5.frz (w.heap.size + 1) 0 (by simp <;> omega)).trans (show _ = false by go_simp); have q1 := (hx5.cells (w.heap.size + 1) 1 (by simp <;> omega)).trans (show _ = some (.int .i64 0) by go_simp); have qf1 := (hx5.frz (w.heap.size + 1) 1 (by simp <;> omega)).trans (show _ = false by go_simp); have HX5 := Lib.hid hx5; have HX4 := Lib.hid hx4; have hs3 := hx4.size; (try simp at hs3); clear hx4 hx5)))
      all_goals refine bodyPost_ret (v := .tuple #[.agg #[.slice none 0 0, .int .i64 0], .int .i64 3]) (by simp [results, Tryz.results34, go_sem, r0, r1, rf0, rf1, hs1]) rfl ⟨[.slice none 0 0, .int .i64 0], by rw [HE.out], by rw [HV.out]; exact ⟨_, rfl, RSl.nil_ (Nat.zero_le _), i64_small (by simp) (by simp)⟩, (by repeat (first | (with_reducible exact ext_refl _) | (with_reducible refine ext_drew ?_) | (with_reducible refine ext_drewN ?_ _) | (with_reducible refine ext_alloc ?_ _) | (with_reducible refine ext_set ?_ (by first | omega | (simp <;> omega)) _) | (with_reducible refine ext_call ?_ HX1.out)))⟩
    · by_cases h2 : 60 < k
      · have t0 : (checkM (l, c) != 0) = false := (by rw [h0]; rfl)
        clear ha
        have HE := Lib.hid (show (nextM (l, c) k).2 = 3 from nextM_rng h0 (.inr h2))
        have HV := Lib.hid (show (nextM (l, c) k).1 = ([], 0) from nextM_err (by rw [nextM_rng h0 (.inr h2)]; decide))
        clear h0
        go_enter Tryz.func34, Tryz.ntmps34
        go_wp2_with (first
        | (go_at_call 58; ((with_reducible refine (HC.out _ (by repeat (first | (with_reducible exact ext_refl _) | (with_reducible refine ext_drew ?_) | (with_reducible refine ext_drewN ?_ _) | (with_reducible refine ext_alloc ?_ _) | (with_reducible refine ext_set ?_ (by first | omega | (simp <;> omega)) _)))).mono ?_); rintro e w1 ⟨rfl, hx1⟩; have m0 := (hx1.cells (w.heap.size) 0 (by simp <;> omega)).trans (show _ = some (.slice a1 n1 c1) by go_simp); have m1 := (hx1.cells (w.heap.size) 1 (by simp <;> omega)).trans (show _ = some (.int .i64 c) by go_simp); have r0 := (hx1.cells (w.heap.size + 1) 0 (by simp <;> omega)).trans (show _ = some (.slice none 0 0) by go_simp); have rf0 := (hx1.frz (w.heap.size + 1) 0 (by simp <;> omega)).trans (show _ = false by go_simp); have r1 := (hx1.cells (w.heap.size + 1) 1 (by simp <;> omega)).trans (show _ = some (.int .i64 0) by go_simp); have rf1 := (hx1.frz (w.heap.size + 1) 1 (by simp <;> omega)).trans (show _ = false by go_simp); have HX1 := Lib.hid hx1; have hs1 := hx1.size; simp at hs1; clear hx1))
        | (go_at_call 76; go_must ((with_reducible refine (HA.out _ (by repeat (first | (with_reducible exact ext_refl _) | (with_reducible refine ext_drew ?_) | (with_reducible refine ext_drewN ?_ _) | (with_reducible refine ext_alloc ?_ _) | (with_reducible refine ext_set ?_ (by first | omega | (simp <;> omega)) _) | (with_reducible refine ext_call ?_ HX1.out)))).mono ?_); rintro e w2 ⟨cs2, rfl, hm2, hx2⟩; have HM2 := Lib.hid (omk_mk hm2); obtain ⟨v2, rfl, hv2, _⟩ := hm2; obtain ⟨a3, n3, c3, rfl⟩ := osl_slice hv2; have hx3 := ext_call HX1.out hx2; have q0 := (hx3.cells (w.heap.size + 1) 0 (by simp <;> omega)).trans (show _ = some (.slice none 0 0) by go_simp); have qf0 := (hx3.frz (w.heap.size + 1) 0 (by simp <;> omega)).trans (show _ = false by go_simp); have q1 := (hx3.cells (w.heap.size + 1) 1 (by simp <;> omega)).trans (show _ = some (.int .i64 0) by go_simp); have qf1 := (hx3.frz (w.heap.size + 1) 1 (by simp <;> omega)).trans (show _ = false by go_simp); have HX3 := Lib.hid hx3; have hs2 := hx2.size; (try simp at hs2); clear hx2 hx3 hv2 m0 m1 r0 rf0 r1 rf1))
        | (go_at_call 58; go_must ((with_reducible refine (check_any (gMk.ext HM2.out (ext_alloc (ext_refl _) _))).mono ?_); rintro e w3 ⟨rfl, hx4⟩; have b0 := (hx4.cells w2.heap.size 0 (by simp <;> omega)).trans (show _ = some (.slice a3 n3 c3) by go_simp); have b1 := (hx4.cells w2.heap.size 1 (by simp <;> omega)).trans (show _ = some (.int .i64 (c + k)) by go_simp); have hx5 := ext_call (ext_call HX3.out (ext_alloc (ext_refl _) _)) hx4; clear q0 qf0 q1 qf1; have q0 := (hx5.cells (w.heap.size + 1) 0 (by simp <;> omega)).trans (show _ = some (.slice none 0 0) by go_simp); have qf0 := (hx5.frz (w.heap.size + 1) 0 (by simp <;> omega)).trans (show _ = false by go_simp); have q1 := (hx5.cells (w.heap.size + 1) 1 (by simp <;> omega)).trans (show _ = some (.int .i64 0) by go_simp); have qf1 := (hx5.frz (w.heap.size + 1) 1 (by simp <;> omega)).trans (show _ = false by go_simp); have HX5 := Lib.hid hx5; have HX4 := Lib.hid hx4; have hs3 := hx4.size; (try simp at hs3); clear hx4 hx5)))
        all_goals refine bodyPost_ret (v := .tuple #[.agg #[.slice none 0 0, .int .i64 0], .int .i64 3]) (by simp [results, Tryz.results34, go_sem, r0, r1, rf0, rf1, hs1]) rfl ⟨[.slice none 0 0, .int .i64 0], by rw [HE.out], by rw [HV.out]; exact ⟨_, rfl, RSl.nil_ (Nat.zero_le _), i64_small (by simp) (by simp)⟩, (by repeat (first | (with_reducible exact ext_refl _) | (with_reducible refine ext_drew ?_) | (with_reducible refine ext_drewN ?_ _) | (with_reducible refine ext_alloc ?_ _) | (with_reducible refine ext_set ?_ (by first | omega | (simp <;> omega)) _) | (with_reducible refine ext_call ?_ HX1.out)))⟩
      · have HA := Lib.hid (ha h0 (by omega) (by omega))
        clear ha
        obtain ⟨d1, d2⟩ := check_clock h0
        simp only at d1 d2
        have e0 : (afterM (l, c) k) = (addLast l k, c + k) := rfl
        rw [e0] at HA
        clear e0
        by_cases h3 : checkM (addLast l k, c + k) = 0
        · have t0 : (checkM (l, c) != 0) = false := (by rw [h0]; rfl)
          have t1 : (checkM (addLast l k, c + k) != 0) = false := (by rw [h3]; rfl)
          have H0 := Lib.hid h0
          have H3 := Lib.hid h3
          have HE := Lib.hid (show (nextM (l, c) k).2 = 0 from nextM_ok.2 ⟨h0, by omega, by omega, h3⟩)
          have HV := Lib.hid (show (nextM (l, c) k).1 = (addLast l k, c + k) from nextM_val (nextM_ok.2 ⟨h0, by omega, by omega, h3⟩))
          clear h0 h3
          go_enter Tryz.func34, Tryz.ntmps34
          go_wp2_with (first
        | (go_at_call 58; ((with_reducible refine (HC.out _ (by repeat (first | (with_reducible exact ext_refl _) | (with_reducible refine ext_drew ?_) | (with_reducible refine ext_drewN ?_ _) | (with_reducible refine ext_alloc ?_ _) | (with_reducible refine ext_set ?_ (by first | omega | (simp <;> omega)) _)))).mono ?_); rintro e w1 ⟨rfl, hx1⟩; have m0 := (hx1.cells (w.heap.size) 0 (by simp <;> omega)).trans (show _ = some (.slice a1 n1 c1) by go_simp); have m1 := (hx1.cells (w.heap.size) 1 (by simp <;> omega)).trans (show _ = some (.int .i64 c) by go_simp); have r0 := (hx1.cells (w.heap.size + 1) 0 (by simp <;> omega)).trans (show _ = some (.slice none 0 0) by go_simp); have rf0 := (hx1.frz (w.heap.size + 1) 0 (by simp <;> omega)).trans (show _ = false by go_simp); have r1 := (hx1.cells (w.heap.size + 1) 1 (by simp <;> omega)).trans (show _ = some (.int .i64 0) by go_simp); have rf1 := (hx1.frz (w.heap.size + 1) 1 (by simp <;> omega)).trans (show _ = false by go_simp); have HX1 := Lib.hid hx1; have hs1 := hx1.size; simp at hs1; clear hx1))
        | (go_at_call 76; go_must ((with_reducible refine (HA.out _ (by repeat (first | (with_reducible exact ext_refl _) | (with_reducible refine ext_drew ?_) | (with_reducible refine ext_drewN ?_ _) | (with_reducible refine ext_alloc ?_ _) | (with_reducible refine ext_set ?_ (by first | omega | (simp <;> omega)) _) | (with_reducible refine ext_call ?_ HX1.out)))).mono ?_); rintro e w2 ⟨cs2, rfl, hm2, hx2⟩; have HM2 := Lib.hid (omk_mk hm2); obtain ⟨v2, rfl, hv2, _⟩ := hm2; obtain ⟨a3, n3, c3, rfl⟩ := osl_slice hv2; have hx3 := ext_call HX1.out hx2; have q0 := (hx3.cells (w.heap.size + 1) 0 (by simp <;> omega)).trans (show _ = some (.slice none 0 0) by go_simp); have qf0 := (hx3.frz (w.heap.size + 1) 0 (by simp <;> omega)).trans (show _ = false by go_simp); have q1 := (hx3.cells (w.heap.size + 1) 1 (by simp <;> omega)).trans (show _ = some (.int .i64 0) by go_simp); have qf1 := (hx3.frz (w.heap.size + 1) 1 (by simp <;> omega)).trans (show _ = false by go_simp); have HX3 := Lib.hid hx3; have hs2 := hx2.size; (try simp at hs2); clear hx2 hx3 hv2 m0 m1 r0 rf0 r1 rf1))
        | (go_at_call 58; go_must ((with_reducible refine (check_any (gMk.ext HM2.out (ext_alloc (ext_refl _) _))).mono ?_); rintro e w3 ⟨rfl, hx4⟩; have b0 := (hx4.cells w2.heap.size 0 (by simp <;> omega)).trans (show _ = some (.slice a3 n3 c3) by go_simp); have b1 := (hx4.cells w2.heap.size 1 (by simp <;> omega)).trans (show _ = some (.int .i64 (c + k)) by go_simp); have hx5 := ext_call (ext_call HX3.out (ext_alloc (ext_refl _) _)) hx4; clear q0 qf0 q1 qf1; have q0 := (hx5.cells (w.heap.size + 1) 0 (by simp <;> omega)).trans (show _ = some (.slice none 0 0) by go_simp); have qf0 := (hx5.frz (w.heap.size + 1) 0 (by simp <;> omega)).trans (show _ = false by go_simp); have q1 := (hx5.cells (w.heap.size + 1) 1 (by simp <;> omega)).trans (show _ = some (.int .i64 0) by go_simp); have qf1 := (hx5.frz (w.heap.size + 1) 1 (by simp <;> omega)).trans (show _ = false by go_simp); have HX5 := Lib.hid hx5; have HX4 := Lib.hid hx4; have hs3 := hx4.size; (try simp at hs3); clear hx4 hx5)))
          all_goals refine bodyPost_ret (v := .tuple #[.agg #[.slice a3 n3 c3, .int .i64 (c + k)], .int .i64 0]) (by simp [results, Tryz.results34, go_sem, q0, q1, b0, b1, qf0, qf1, hs1, hs2, hs3]) rfl ⟨[.slice a3 n3 c3, .int .i64 (c + k)], by rw [HE.out], by rw [HV.out]; exact RMk_fin HM2.out (by repeat (first | (with_reducible exact keeps_refl) | (with_reducible refine keeps_drew ?_) | (with_reducible refine keeps_alloc ?_ _) | (with_reducible refine keeps_set ?_ (by first | omega | (simp <;> omega)) _) | (with_reducible refine keeps_ext ?_ HX4.out)))  (by first | omega | (simp <;> omega)), (by repeat (first | (with_reducible exact ext_refl _) | (with_reducible refine ext_drew ?_) | (with_reducible refine ext_drewN ?_ _) | (with_reducible refine ext_alloc ?_ _) | (with_reducible refine ext_set ?_ (by first | omega | (simp <;> omega)) _) | (with_reducible refine ext_call ?_ HX5.out)))⟩
        · have t0 : (checkM (l, c) != 0) = false := (by rw [h0]; rfl)
          have t1 : (checkM (addLast l k, c + k) != 0) = true := (by rw [bne_iff_ne]; exact h3)
          have H0 := Lib.hid h0
          have H3 := Lib.hid h3
          have HE := Lib.hid (show (nextM (l, c) k).2 = 3 from nextM_bad h0 (by omega) (by omega) h3)
          have HV := Lib.hid (show (nextM (l, c) k).1 = ([], 0) from nextM_err (by rw [nextM_bad h0 (by omega) (by omega) h3]; decide))
          clear h0 h3
          go_enter Tryz.func34, Tryz.ntmps34
          go_wp2_with (first
        | (go_at_call 58; ((with_reducible refine (HC.out _ (by repeat (first | (with_reducible exact ext_refl _) | (with_reducible refine ext_drew ?_) | (with_reducible refine ext_drewN ?_ _) | (with_reducible refine ext_alloc ?_ _) | (with_reducible refine ext_set ?_ (by first | omega | (simp <;> omega)) _)))).mono ?_); rintro e w1 ⟨rfl, hx1⟩; have m0 := (hx1.cells (w.heap.size) 0 (by simp <;> omega)).trans (show _ = some (.slice a1 n1 c1) by go_simp); have m1 := (hx1.cells (w.heap.size) 1 (by simp <;> omega)).trans (show _ = some (.int .i64 c) by go_simp); have r0 := (hx1.cells (w.heap.size + 1) 0 (by simp <;> omega)).trans (show _ = some (.slice none 0 0) by go_simp); have rf0 := (hx1.frz (w.heap.size + 1) 0 (by simp <;> omega)).trans (show _ = false by go_simp); have r1 := (hx1.cells (w.heap.size + 1) 1 (by simp <;> omega)).trans (show _ = some (.int .i64 0) by go_simp); have rf1 := (hx1.frz (w.heap.size + 1) 1 (by simp <;> omega)).trans (show _ = false by go_simp); have HX1 := Lib.hid hx1; have hs1 := hx1.size; simp at hs1; clear hx1))
        | (go_at_call 76; go_must ((with_reducible refine (HA.out _ (by repeat (first | (with_reducible exact ext_refl _) | (with_reducible refine ext_drew ?_) | (with_reducible refine ext_drewN ?_ _) | (with_reducible refine ext_alloc ?_ _) | (with_reducible refine ext_set ?_ (by first | omega | (simp <;> omega)) _) | (with_reducible refine ext_call ?_ HX1.out)))).mono ?_); rintro e w2 ⟨cs2, rfl, hm2, hx2⟩; have HM2 := Lib.hid (omk_mk hm2); obtain ⟨v2, rfl, hv2, _⟩ := hm2; obtain ⟨a3, n3, c3, rfl⟩ := osl_slice hv2; have hx3 := ext_call HX1.out hx2; have q0 := (hx3.cells (w.heap.size + 1) 0 (by simp <;> omega)).trans (show _ = some (.slice none 0 0) by go_simp); have qf0 := (hx3.frz (w.heap.size + 1) 0 (by simp <;> omega)).trans (show _ = false by go_simp); have q1 := (hx3.cells (w.heap.size + 1) 1 (by simp <;> omega)).trans (show _ = some (.int .i64 0) by go_simp); have qf1 := (hx3.frz (w.heap.size + 1) 1 (by simp <;> omega)).trans (show _ = false by go_simp); have HX3 := Lib.hid hx3; have hs2 := hx2.size; (try simp at hs2); clear hx2 hx3 hv2 m0 m1 r0 rf0 r1 rf1))
        | (go_at_call 58; go_must ((with_reducible refine (check_any (gMk.ext HM2.out (ext_alloc (ext_refl _) _))).mono ?_); rintro e w3 ⟨rfl, hx4⟩; have b0 := (hx4.cells w2.heap.size 0 (by simp <;> omega)).trans (show _ = some (.slice a3 n3 c3) by go_simp); have b1 := (hx4.cells w2.heap.size 1 (by simp <;> omega)).trans (show _ = some (.int .i64 (c + k)) by go_simp); have hx5 := ext_call (ext_call HX3.out (ext_alloc (ext_refl _) _)) hx4; clear q0 qf0 q1 qf1; have q0 := (hx5.cells (w.heap.size + 1) 0 (by simp <;> omega)).trans (show _ = some (.slice none 0 0) by go_simp); have qf0 := (hx5.frz (w.heap.size + 1) 0 (by simp <;> omega)).trans (show _ = false by go_simp); have q1 := (hx5.cells (w.heap.size + 1) 1 (by simp <;> omega)).trans (show _ = some (.int .i64 0) by go_simp); have qf1 := (hx5.frz (w.heap.size + 1) 1 (by simp <;> omega)).trans (show _ = false by go_simp); have HX5 := Lib.hid hx5; have HX4 := Lib.hid hx4; have hs3 := hx4.size; (try simp at hs3); clear hx4 hx5)))
          all_goals refine bodyPost_ret (v := .tuple #[.agg #[.slice none 0 0, .int .i64 0], .int .i64 3]) (by simp [results, Tryz.results34, go_sem, q0, q1, qf0, qf1, hs1, hs2, hs3]) rfl ⟨[.slice none 0 0, .int .i64 0], by rw [HE.out], by rw [HV.out]; exact ⟨_, rfl, RSl.nil_ (Nat.zero_le _), i64_small (by simp) (by simp)⟩, (by repeat (first | (with_reducible exact ext_refl _) | (with_reducible refine ext_drew ?_) | (with_reducible refine ext_drewN ?_ _) | (with_reducible refine ext_alloc ?_ _) | (with_reducible refine ext_set ?_ (by first | omega | (simp <;> omega)) _) | (with_reducible refine ext_call ?_ HX5.out)))⟩
  · have t0 : (checkM (l, c) != 0) = true := (by rw [bne_iff_ne]; exact h0)
    clear ha
    have HE := Lib.hid (show (nextM (l, c) k).2 = (checkM (l, c)) from nextM_chk h0)
    have HV := Lib.hid (show (nextM (l, c) k).1 = ([], 0) from nextM_err (by rw [nextM_chk h0]; exact h0))
    have H0 := Lib.hid h0
    clear h0
    go_enter Tryz.func34, Tryz.ntmps34
    go_wp2_with (first
        | (go_at_call 58; ((with_reducible refine (HC.out _ (by repeat (first | (with_reducible exact ext_refl _) | (with_reducible refine ext_drew ?_) | (with_reducible refine ext_drewN ?_ _) | (with_reducible refine ext_alloc ?_ _) | (with_reducible refine ext_set ?_ (by first | omega | (simp <;> omega)) _)))).mono ?_); rintro e w1 ⟨rfl, hx1⟩; have m0 := (hx1.cells (w.heap.size) 0 (by simp <;> omega)).trans (show _ = some (.slice a1 n1 c1) by go_simp); have m1 := (hx1.cells (w.heap.size) 1 (by simp <;> omega)).trans (show _ = some (.int .i64 c) by go_simp); have r0 := (hx1.cells (w.heap.size + 1) 0 (by simp <;> omega)).trans (show _ = some (.slice none 0 0) by go_simp); have rf0 := (hx1.frz (w.heap.size + 1) 0 (by simp <;> omega)).trans (show _ = false by go_simp); have r1 := (hx1.cells (w.heap.size + 1) 1 (by simp <;> omega)).trans (show _ = some (.int .i64 0) by go_simp); have rf1 := (hx1.frz (w.heap.size + 1) 1 (by simp <;> omega)).trans (show _ = false by go_simp); have HX1 := Lib.hid hx1; have hs1 := hx1.size; simp at hs1; clear hx1))
        | (go_at_call 76; go_must ((with_reducible refine (HA.out _ (by repeat (first | (with_reducible exact ext_refl _) | (with_reducible refine ext_drew ?_) | (with_reducible refine ext_drewN ?_ _) | (with_reducible refine ext_alloc ?_ _) | (with_reducible refine ext_set ?_ (by first | omega | (simp <;> omega)) _) | (with_reducible refine ext_call ?_ HX1.out)))).mono ?_); rintro e w2 ⟨cs2, rfl, hm2, hx2⟩; have HM2 := Lib.hid (omk_mk hm2); obtain ⟨v2, rfl, hv2, _⟩ := hm2; obtain ⟨a3, n3, c3, rfl⟩ := osl_slice hv2; have hx3 := ext_call HX1.out hx2; have q0 := (hx3.cells (w.heap.size + 1) 0 (by simp <;> omega)).trans (show _ = some (.slice none 0 0) by go_simp); have qf0 := (hx3.frz (w.heap.size + 1) 0 (by simp <;> omega)).trans (show _ = false by go_simp); have q1 := (hx3.cells (w.heap.size + 1) 1 (by simp <;> omega)).trans (show _ = some (.int .i64 0) by go_simp); have qf1 := (hx3.frz (w.heap.size + 1) 1 (by simp <;> omega)).trans (show _ = false by go_simp); have HX3 := Lib.hid hx3; have hs2 := hx2.size; (try simp at hs2); clear hx2 hx3 hv2 m0 m1 r0 rf0 r1 rf1))
        | (go_at_call 58; go_must ((with_reducible refine (check_any (gMk.ext HM2.out (ext_alloc (ext_refl _) _))).mono ?_); rintro e w3 ⟨rfl, hx4⟩; have b0 := (hx4.cells w2.heap.size 0 (by simp <;> omega)).trans (show _ = some (.slice a3 n3 c3) by go_simp); have b1 := (hx4.cells w2.heap.size 1 (by simp <;> omega)).trans (show _ = some (.int .i64 (c + k)) by go_simp); have hx5 := ext_call (ext_call HX3.out (ext_alloc (ext_refl _) _)) hx4; clear q0 qf0 q1 qf1; have q0 := (hx5.cells (w.heap.size + 1) 0 (by simp <;> omega)).trans (show _ = some (.slice none 0 0) by go_simp); have qf0 := (hx5.frz (w.heap.size + 1) 0 (by simp <;> omega)).trans (show _ = false by go_simp); have q1 := (hx5.cells (w.heap.size + 1) 1 (by simp <;> omega)).trans (show _ = some (.int .i64 0) by go_simp); have qf1 := (hx5.frz (w.heap.size + 1) 1 (by simp <;> omega)).trans (show _ = false by go_simp); have HX5 := Lib.hid hx5; have HX4 := Lib.hid hx4; have hs3 := hx4.size; (try simp at hs3); clear hx4 hx5)))
    all_goals refine bodyPost_ret (v := .tuple #[.agg #[.slice none 0 0, .int .i64 0], .int .i64 (checkM (l, c))]) (by simp [results, Tryz.results34, go_sem, r0, r1, rf0, rf1, hs1]) rfl ⟨[.slice none 0 0, .int .i64 0], by rw [HE.out], by rw [HV.out]; exact ⟨_, rfl, RSl.nil_ (Nat.zero_le _), i64_small (by simp) (by simp)⟩, (by repeat (first | (with_reducible exact ext_refl _) | (with_reducible refine ext_drew ?_) | (with_reducible refine ext_drewN ?_ _) | (with_reducible refine ext_alloc ?_ _) | (with_reducible refine ext_set ?_ (by first | omega | (simp <;> omega)) _) | (with_reducible refine ext_call ?_ HX1.out)))⟩

set_option maxRecDepth 100000 in
set_option maxHeartbeats 1600000 in
theorem nextOf_any {F : Nat → Prop} {w : World} {cs : List Value} {m : Mk} {k : Int} (h : RMk F w cs m) :
    Calls Tryz.prog 113 #[.agg cs.toArray, .int .i64 k] w (IsMarkE (nextM m k).1 (nextM m k).2 w) := by
  have HC := Lib.hid (fun (W : World) (hx : Ext w W) => checkMark_any (gMk.ext h hx))
  have ha := fun (h0 : checkM m = 0) (h1 : 0 ≤ k) (h2 : k ≤ 60) (W : World) (hx : Ext w W) => afterOf_any (k := k) (gMk.ext h hx) (check_len h0) (check_ne h0) (check_digit h0) (check_clock h0) ⟨h1, by omega⟩
  obtain ⟨v, rfl, hl, hi64⟩ := h
  obtain ⟨l, c⟩ := m
  simp only at hl ha ⊢
  obtain ⟨a1, n1, c1, rfl⟩ := hl.slice
  clear hl hi64
  by_cases h0 : checkM (l, c) = 0
  · by_cases h1 : k < 0
    · have t0 : (checkM (l, c) != 0) = false := (by rw [h0]; rfl)
      have g1 : inB k 0 60 = false := (by unfold inB; simp; omega)
      clear ha
      have HE := Lib.hid (show (nextM (l, c) k).2 = 3 from nextM_rng h0 (.inl h1))
      have HV := Lib.hid (show (nextM (l, c) k).1 = ([], 0) from nextM_err (by rw [nextM_rng h0 (.inl h1)]; decide))
      clear h0
      go_enter Tryz.func113, Tryz.ntmps113
      go_wp2_with (first
        | (go_at_call 108; ((with_reducible refine (HC.out _ (by repeat (first | (with_reducible exact ext_refl _) | (with_reducible refine ext_drew ?_) | (with_reducible refine ext_drewN ?_ _) | (with_reducible refine ext_alloc ?_ _) | (with_reducible refine ext_set ?_ (by first | omega | (simp <;> omega)) _)))).mono ?_); rintro e w1 ⟨rfl, hx1⟩; have m0 := (hx1.cells (w.heap.size) 0 (by simp <;> omega)).trans (show _ = some (.slice a1 n1 c1) by go_simp); have m1 := (hx1.cells (w.heap.size) 1 (by simp <;> omega)).trans (show _ = some (.int .i64 c) by go_simp); have r0 := (hx1.cells (w.heap.size + 1) 0 (by simp <;> omega)).trans (show _ = some (.slice none 0 0) by go_simp); have rf0 := (hx1.frz (w.heap.size + 1) 0 (by simp <;> omega)).trans (show _ = false by go_simp); have r1 := (hx1.cells (w.heap.size + 1) 1 (by simp <;> omega)).trans (show _ = some (.int .i64 0) by go_simp); have rf1 := (hx1.frz (w.heap.size + 1) 1 (by simp <;> omega)).trans (show _ = false by go_simp); have HX1 := Lib.hid hx1; have hs1 := hx1.size; simp at hs1; clear hx1))
        | (go_at_call 122; go_must ((with_reducible refine (HA.out _ (by repeat (first | (with_reducible exact ext_refl _) | (with_reducible refine ext_drew ?_) | (with_reducible refine ext_drewN ?_ _) | (with_reducible refine ext_alloc ?_ _) | (with_reducible refine ext_set ?_ (by first | omega | (simp <;> omega)) _) | (with_reducible refine ext_call ?_ HX1.out)))).mono ?_); rintro e w2 ⟨cs2, rfl, hm2, hx2⟩; have HM2 := Lib.hid (omk_mk hm2); obtain ⟨v2, rfl, hv2, _⟩ := hm2; obtain ⟨a3, n3, c3, rfl⟩ := osl_slice hv2; have hx3 := ext_call HX1.out hx2; have q0 := (hx3.cells (w.heap.size + 1) 0 (by simp <;> omega)).trans (show _ = some (.slice none 0 0) by go_simp); have qf0 := (hx3.frz (w.heap.size + 1) 0 (by simp <;> omega)).trans (show _ = false by go_simp); have q1 := (hx3.cells (w.heap.size + 1) 1 (by simp <;> omega)).trans (show _ = some (.int .i64 0) by go_simp); have qf1 := (hx3.frz (w.heap.size + 1) 1 (by simp <;> omega)).trans (show _ = false by go_simp); have HX3 := Lib.hid hx3; have hs2 := hx2.size; (try simp at hs2); clear hx2 hx3 hv2 m0 m1 r0 rf0 r1 rf1))
        | (go_at_call 108; go_must ((with_reducible refine (checkMark_any (gMk.ext HM2.out (ext_alloc (ext_refl _) _))).mono ?_); rintro e w3 ⟨rfl, hx4⟩; have b0 := (hx4.cells w2.heap.size 0 (by simp <;> omega)).trans (show _ = some (.slice a3 n3 c3) by go_simp); have b1 := (hx4.cells w2.heap.size 1 (by simp <;> omega)).trans (show _ = some (.int .i64 (c + k)) by go_simp); have hx5 := ext_call (ext_call HX3.out (ext_alloc (ext_refl _) _)) hx4; clear q0 qf0 q1 qf1; have q0 := (hx5.cells (w.heap.size + 1) 0 (by simp <;> omega)).trans (show _ = some (.slice none 0 0) by go_simp); have qf0 := (hx5.frz (w.heap.size + 1) 0 (by simp <;> omega)).trans (show _ = false by go_simp); have q1 := (hx5.cells (w.heap.size + 1) 1 (by simp <;> omega)).trans (show _ = some (.int .i64 0) by go_simp); have qf1 := (hx5.frz (w.heap.size + 1) 1 (by simp <;> omega)).trans (show _ = false by go_simp); have HX5 := Lib.hid hx5; have HX4 := Lib.hid hx4; have hs3 := hx4.size; (try simp at hs3); clear hx4 hx5))
        | (go_at_call 112; refine (between_any _ _ _ _).mono ?_; rintro e w9 ⟨rfl, rfl⟩))
      all_goals refine bodyPost_ret (v := .tuple #[.agg #[.slice none 0 0, .int .i64 0], .int .i64 3]) (by simp [results, Tryz.results113, go_sem, r0, r1, rf0, rf1, hs1]) rfl ⟨[.slice none 0 0, .int .i64 0], by rw [HE.out], by rw [HV.out]; exact ⟨_, rfl, RSl.nil_ (Nat.zero_le _), i64_small (by simp) (by simp)⟩, (by repeat (first | (with_reducible exact ext_refl _) | (with_reducible refine ext_drew ?_) | (with_reducible refine ext_drewN ?_ _) | (with_reducible refine ext_alloc ?_ _) | (with_reducible refine ext_set ?_ (by first | omega | (simp <;> omega)) _) | (with_reducible refine ext_call ?_ HX1.out)))⟩
    · by_cases h2 : 60 < k
      · have t0 : (checkM (l, c) != 0) = false := (by rw [h0]; rfl)
        have g1 : inB k 0 60 = false := (by unfold inB; simp; omega)
        clear ha
        have HE := Lib.hid (show (nextM (l, c) k).2 = 3 from nextM_rng h0 (.inr h2))
        have HV := Lib.hid (show (nextM (l, c) k).1 = ([], 0) from nextM_err (by rw [nextM_rng h0 (.inr h2)]; decide))
        clear h0
        go_enter Tryz.func113, Tryz.ntmps113
        go_wp2_with (first
        | (go_at_call 108; ((with_reducible refine (HC.out _ (by repeat (first | (with_reducible exact ext_refl _) | (with_reducible refine ext_drew ?_) | (with_reducible refine ext_drewN ?_ _) | (with_reducible refine ext_alloc ?_ _) | (with_reducible refine ext_set ?_ (by first | omega | (simp <;> omega)) _)))).mono ?_); rintro e w1 ⟨rfl, hx1⟩; have m0 := (hx1.cells (w.heap.size) 0 (by simp <;> omega)).trans (show _ = some (.slice a1 n1 c1) by go_simp); have m1 := (hx1.cells (w.heap.size) 1 (by simp <;> omega)).trans (show _ = some (.int .i64 c) by go_simp); have r0 := (hx1.cells (w.heap.size + 1) 0 (by simp <;> omega)).trans (show _ = some (.slice none 0 0) by go_simp); have rf0 := (hx1.frz (w.heap.size + 1) 0 (by simp <;> omega)).trans (show _ = false by go_simp); have r1 := (hx1.cells (w.heap.size + 1) 1 (by simp <;> omega)).trans (show _ = some (.int .i64 0) by go_simp); have rf1 := (hx1.frz (w.heap.size + 1) 1 (by simp <;> omega)).trans (show _ = false by go_simp); have HX1 := Lib.hid hx1; have hs1 := hx1.size; simp at hs1; clear hx1))
        | (go_at_call 122; go_must ((with_reducible refine (HA.out _ (by repeat (first | (with_reducible exact ext_refl _) | (with_reducible refine ext_drew ?_) | (with_reducible refine ext_drewN ?_ _) | (with_reducible refine ext_alloc ?_ _) | (with_reducible refine ext_set ?_ (by first | omega | (simp <;> omega)) _) | (with_reducible refine ext_call ?_ HX1.out)))).mono ?_); rintro e w2 ⟨cs2, rfl, hm2, hx2⟩; have HM2 := Lib.hid (omk_mk hm2); obtain ⟨v2, rfl, hv2, _⟩ := hm2; obtain ⟨a3, n3, c3, rfl⟩ := osl_slice hv2; have hx3 := ext_call HX1.out hx2; have q0 := (hx3.cells (w.heap.size + 1) 0 (by simp <;> omega)).trans (show _ = some (.slice none 0 0) by go_simp); have qf0 := (hx3.frz (w.heap.size + 1) 0 (by simp <;> omega)).trans (show _ = false by go_simp); have q1 := (hx3.cells (w.heap.size + 1) 1 (by simp <;> omega)).trans (show _ = some (.int .i64 0) by go_simp); have qf1 := (hx3.frz (w.heap.size + 1) 1 (by simp <;> omega)).trans (show _ = false by go_simp); have HX3 := Lib.hid hx3; have hs2 := hx2.size; (try simp at hs2); clear hx2 hx3 hv2 m0 m1 r0 rf0 r1 rf1))
        | (go_at_call 108; go_must ((with_reducible refine (checkMark_any (gMk.ext HM2.out (ext_alloc (ext_refl _) _))).mono ?_); rintro e w3 ⟨rfl, hx4⟩; have b0 := (hx4.cells w2.heap.size 0 (by simp <;> omega)).trans (show _ = some (.slice a3 n3 c3) by go_simp); have b1 := (hx4.cells w2.heap.size 1 (by simp <;> omega)).trans (show _ = some (.int .i64 (c + k)) by go_simp); have hx5 := ext_call (ext_call HX3.out (ext_alloc (ext_refl _) _)) hx4; clear q0 qf0 q1 qf1; have q0 := (hx5.cells (w.heap.size + 1) 0 (by simp <;> omega)).trans (show _ = some (.slice none 0 0) by go_simp); have qf0 := (hx5.frz (w.heap.size + 1) 0 (by simp <;> omega)).trans (show _ = false by go_simp); have q1 := (hx5.cells (w.heap.size + 1) 1 (by simp <;> omega)).trans (show _ = some (.int .i64 0) by go_simp); have qf1 := (hx5.frz (w.heap.size + 1) 1 (by simp <;> omega)).trans (show _ = false by go_simp); have HX5 := Lib.hid hx5; have HX4 := Lib.hid hx4; have hs3 := hx4.size; (try simp at hs3); clear hx4 hx5))
        | (go_at_call 112; refine (between_any _ _ _ _).mono ?_; rintro e w9 ⟨rfl, rfl⟩))
        all_goals refine bodyPost_ret (v := .tuple #[.agg #[.slice none 0 0, .int .i64 0], .int .i64 3]) (by simp [results, Tryz.results113, go_sem, r0, r1, rf0, rf1, hs1]) rfl ⟨[.slice none 0 0, .int .i64 0], by rw [HE.out], by rw [HV.out]; exact ⟨_, rfl, RSl.nil_ (Nat.zero_le _), i64_small (by simp) (by simp)⟩, (by repeat (first | (with_reducible exact ext_refl _) | (with_reducible refine ext_drew ?_) | (with_reducible refine ext_drewN ?_ _) | (with_reducible refine ext_alloc ?_ _) | (with_reducible refine ext_set ?_ (by first | omega | (simp <;> omega)) _) | (with_reducible refine ext_call ?_ HX1.out)))⟩
      · have HA := Lib.hid (ha h0 (by omega) (by omega))
        clear ha
        obtain ⟨d1, d2⟩ := check_clock h0
        simp only at d1 d2
        have e0 : (afterM (l, c) k) = (addLast l k, c + k) := rfl
        rw [e0] at HA
        clear e0
        have g1 : inB k 0 60 = true := (by unfold inB; simp; omega)
        by_cases h3 : checkM (addLast l k, c + k) = 0
        · have t0 : (checkM (l, c) != 0) = false := (by rw [h0]; rfl)
          have t1 : (checkM (addLast l k, c + k) != 0) = false := (by rw [h3]; rfl)
          have H0 := Lib.hid h0
          have H3 := Lib.hid h3
          have HE := Lib.hid (show (nextM (l, c) k).2 = 0 from nextM_ok.2 ⟨h0, by omega, by omega, h3⟩)
          have HV := Lib.hid (show (nextM (l, c) k).1 = (addLast l k, c + k) from nextM_val (nextM_ok.2 ⟨h0, by omega, by omega, h3⟩))
          clear h0 h3
          go_enter Tryz.func113, Tryz.ntmps113
          go_wp2_with (first
        | (go_at_call 108; ((with_reducible refine (HC.out _ (by repeat (first | (with_reducible exact ext_refl _) | (with_reducible refine ext_drew ?_) | (with_reducible refine ext_drewN ?_ _) | (with_reducible refine ext_alloc ?_ _) | (with_reducible refine ext_set ?_ (by first | omega | (simp <;> omega)) _)))).mono ?_); rintro e w1 ⟨rfl, hx1⟩; have m0 := (hx1.cells (w.heap.size) 0 (by simp <;> omega)).trans (show _ = some (.slice a1 n1 c1) by go_simp); have m1 := (hx1.cells (w.heap.size) 1 (by simp <;> omega)).trans (show _ = some (.int .i64 c) by go_simp); have r0 := (hx1.cells (w.heap.size + 1) 0 (by simp <;> omega)).trans (show _ = some (.slice none 0 0) by go_simp); have rf0 := (hx1.frz (w.heap.size + 1) 0 (by simp <;> omega)).trans (show _ = false by go_simp); have r1 := (hx1.cells (w.heap.size + 1) 1 (by simp <;> omega)).trans (show _ = some (.int .i64 0) by go_simp); have rf1 := (hx1.frz (w.heap.size + 1) 1 (by simp <;> omega)).trans (show _ = false by go_simp); have HX1 := Lib.hid hx1; have hs1 := hx1.size; simp at hs1; clear hx1))
        | (go_at_call 122; go_must ((with_reducible refine (HA.out _ (by repeat (first | (with_reducible exact ext_refl _) | (with_reducible refine ext_drew ?_) | (with_reducible refine ext_drewN ?_ _) | (with_reducible refine ext_alloc ?_ _) | (with_reducible refine ext_set ?_ (by first | omega | (simp <;> omega)) _) | (with_reducible refine ext_call ?_ HX1.out)))).mono ?_); rintro e w2 ⟨cs2, rfl, hm2, hx2⟩; have HM2 := Lib.hid (omk_mk hm2); obtain ⟨v2, rfl, hv2, _⟩ := hm2; obtain ⟨a3, n3, c3, rfl⟩ := osl_slice hv2; have hx3 := ext_call HX1.out hx2; have q0 := (hx3.cells (w.heap.size + 1) 0 (by simp <;> omega)).trans (show _ = some (.slice none 0 0) by go_simp); have qf0 := (hx3.frz (w.heap.size + 1) 0 (by simp <;> omega)).trans (show _ = false by go_simp); have q1 := (hx3.cells (w.heap.size + 1) 1 (by simp <;> omega)).trans (show _ = some (.int .i64 0) by go_simp); have qf1 := (hx3.frz (w.heap.size + 1) 1 (by simp <;> omega)).trans (show _ = false by go_simp); have HX3 := Lib.hid hx3; have hs2 := hx2.size; (try simp at hs2); clear hx2 hx3 hv2 m0 m1 r0 rf0 r1 rf1))
        | (go_at_call 108; go_must ((with_reducible refine (checkMark_any (gMk.ext HM2.out (ext_alloc (ext_refl _) _))).mono ?_); rintro e w3 ⟨rfl, hx4⟩; have b0 := (hx4.cells w2.heap.size 0 (by simp <;> omega)).trans (show _ = some (.slice a3 n3 c3) by go_simp); have b1 := (hx4.cells w2.heap.size 1 (by simp <;> omega)).trans (show _ = some (.int .i64 (c + k)) by go_simp); have hx5 := ext_call (ext_call HX3.out (ext_alloc (ext_refl _) _)) hx4; clear q0 qf0 q1 qf1; have q0 := (hx5.cells (w.heap.size + 1) 0 (by simp <;> omega)).trans (show _ = some (.slice none 0 0) by go_simp); have qf0 := (hx5.frz (w.heap.size + 1) 0 (by simp <;> omega)).trans (show _ = false by go_simp); have q1 := (hx5.cells (w.heap.size + 1) 1 (by simp <;> omega)).trans (show _ = some (.int .i64 0) by go_simp); have qf1 := (hx5.frz (w.heap.size + 1) 1 (by simp <;> omega)).trans (show _ = false by go_simp); have HX5 := Lib.hid hx5; have HX4 := Lib.hid hx4; have hs3 := hx4.size; (try simp at hs3); clear hx4 hx5))
        | (go_at_call 112; refine (between_any _ _ _ _).mono ?_; rintro e w9 ⟨rfl, rfl⟩))
          all_goals refine bodyPost_ret (v := .tuple #[.agg #[.slice a3 n3 c3, .int .i64 (c + k)], .int .i64 0]) (by simp [results, Tryz.results113, go_sem, q0, q1, b0, b1, qf0, qf1, hs1, hs2, hs3]) rfl ⟨[.slice a3 n3 c3, .int .i64 (c + k)], by rw [HE.out], by rw [HV.out]; exact RMk_fin HM2.out (by repeat (first | (with_reducible exact keeps_refl) | (with_reducible refine keeps_drew ?_) | (with_reducible refine keeps_alloc ?_ _) | (with_reducible refine keeps_set ?_ (by first | omega | (simp <;> omega)) _) | (with_reducible refine keeps_ext ?_ HX4.out)))  (by first | omega | (simp <;> omega)), (by repeat (first | (with_reducible exact ext_refl _) | (with_reducible refine ext_drew ?_) | (with_reducible refine ext_drewN ?_ _) | (with_reducible refine ext_alloc ?_ _) | (with_reducible refine ext_set ?_ (by first | omega | (simp <;> omega)) _) | (with_reducible refine ext_call ?_ HX5.out)))⟩
        · have t0 : (checkM (l, c) != 0) = false := (by rw [h0]; rfl)
          have t1 : (checkM (addLast l k, c + k) != 0) = true := (by rw [bne_iff_ne]; exact h3)
          have H0 := Lib.hid h0
          have H3 := Lib.hid h3
          have HE := Lib.hid (show (nextM (l, c) k).2 = 3 from nextM_bad h0 (by omega) (by omega) h3)
          have HV := Lib.hid (show (nextM (l, c) k).1 = ([], 0) from nextM_err (by rw [nextM_bad h0 (by omega) (by omega) h3]; decide))
          clear h0 h3
          go_enter Tryz.func113, Tryz.ntmps113
          go_wp2_with (first
        | (go_at_call 108; ((with_reducible refine (HC.out _ (by repeat (first | (with_reducible exact ext_refl _) | (with_reducible refine ext_drew ?_) | (with_reducible refine ext_drewN ?_ _) | (with_reducible refine ext_alloc ?_ _) | (with_reducible refine ext_set ?_ (by first | omega | (simp <;> omega)) _)))).mono ?_); rintro e w1 ⟨rfl, hx1⟩; have m0 := (hx1.cells (w.heap.size) 0 (by simp <;> omega)).trans (show _ = some (.slice a1 n1 c1) by go_simp); have m1 := (hx1.cells (w.heap.size) 1 (by simp <;> omega)).trans (show _ = some (.int .i64 c) by go_simp); have r0 := (hx1.cells (w.heap.size + 1) 0 (by simp <;> omega)).trans (show _ = some (.slice none 0 0) by go_simp); have rf0 := (hx1.frz (w.heap.size + 1) 0 (by simp <;> omega)).trans (show _ = false by go_simp); have r1 := (hx1.cells (w.heap.size + 1) 1 (by simp <;> omega)).trans (show _ = some (.int .i64 0) by go_simp); have rf1 := (hx1.frz (w.heap.size + 1) 1 (by simp <;> omega)).trans (show _ = false by go_simp); have HX1 := Lib.hid hx1; have hs1 := hx1.size; simp at hs1; clear hx1))
        | (go_at_call 122; go_must ((with_reducible refine (HA.out _ (by repeat (first | (with_reducible exact ext_refl _) | (with_reducible refine ext_drew ?_) | (with_reducible refine ext_drewN ?_ _) | (with_reducible refine ext_alloc ?_ _) | (with_reducible refine ext_set ?_ (by first | omega | (simp <;> omega)) _) | (with_reducible refine ext_call ?_ HX1.out)))).mono ?_); rintro e w2 ⟨cs2, rfl, hm2, hx2⟩; have HM2 := Lib.hid (omk_mk hm2); obtain ⟨v2, rfl, hv2, _⟩ := hm2; obtain ⟨a3, n3, c3, rfl⟩ := osl_slice hv2; have hx3 := ext_call HX1.out hx2; have q0 := (hx3.cells (w.heap.size + 1) 0 (by simp <;> omega)).trans (show _ = some (.slice none 0 0) by go_simp); have qf0 := (hx3.frz (w.heap.size + 1) 0 (by simp <;> omega)).trans (show _ = false by go_simp); have q1 := (hx3.cells (w.heap.size + 1) 1 (by simp <;> omega)).trans (show _ = some (.int .i64 0) by go_simp); have qf1 := (hx3.frz (w.heap.size + 1) 1 (by simp <;> omega)).trans (show _ = false by go_simp); have HX3 := Lib.hid hx3; have hs2 := hx2.size; (try simp at hs2); clear hx2 hx3 hv2 m0 m1 r0 rf0 r1 rf1))
        | (go_at_call 108; go_must ((with_reducible refine (checkMark_any (gMk.ext HM2.out (ext_alloc (ext_refl _) _))).mono ?_); rintro e w3 ⟨rfl, hx4⟩; have b0 := (hx4.cells w2.heap.size 0 (by simp <;> omega)).trans (show _ = some (.slice a3 n3 c3) by go_simp); have b1 := (hx4.cells w2.heap.size 1 (by simp <;> omega)).trans (show _ = some (.int .i64 (c + k)) by go_simp); have hx5 := ext_call (ext_call HX3.out (ext_alloc (ext_refl _) _)) hx4; clear q0 qf0 q1 qf1; have q0 := (hx5.cells (w.heap.size + 1) 0 (by simp <;> omega)).trans (show _ = some (.slice none 0 0) by go_simp); have qf0 := (hx5.frz (w.heap.size + 1) 0 (by simp <;> omega)).trans (show _ = false by go_simp); have q1 := (hx5.cells (w.heap.size + 1) 1 (by simp <;> omega)).trans (show _ = some (.int .i64 0) by go_simp); have qf1 := (hx5.frz (w.heap.size + 1) 1 (by simp <;> omega)).trans (show _ = false by go_simp); have HX5 := Lib.hid hx5; have HX4 := Lib.hid hx4; have hs3 := hx4.size; (try simp at hs3); clear hx4 hx5))
        | (go_at_call 112; refine (between_any _ _ _ _).mono ?_; rintro e w9 ⟨rfl, rfl⟩))
          all_goals refine bodyPost_ret (v := .tuple #[.agg #[.slice none 0 0, .int .i64 0], .int .i64 3]) (by simp [results, Tryz.results113, go_sem, q0, q1, qf0, qf1, hs1, hs2, hs3]) rfl ⟨[.slice none 0 0, .int .i64 0], by rw [HE.out], by rw [HV.out]; exact ⟨_, rfl, RSl.nil_ (Nat.zero_le _), i64_small (by simp) (by simp)⟩, (by repeat (first | (with_reducible exact ext_refl _) | (with_reducible refine ext_drew ?_) | (with_reducible refine ext_drewN ?_ _) | (with_reducible refine ext_alloc ?_ _) | (with_reducible refine ext_set ?_ (by first | omega | (simp <;> omega)) _) | (with_reducible refine ext_call ?_ HX5.out)))⟩
  · have t0 : (checkM (l, c) != 0) = true := (by rw [bne_iff_ne]; exact h0)
    clear ha
    have HE := Lib.hid (show (nextM (l, c) k).2 = (checkM (l, c)) from nextM_chk h0)
    have HV := Lib.hid (show (nextM (l, c) k).1 = ([], 0) from nextM_err (by rw [nextM_chk h0]; exact h0))
    have H0 := Lib.hid h0
    clear h0
    go_enter Tryz.func113, Tryz.ntmps113
    go_wp2_with (first
        | (go_at_call 108; ((with_reducible refine (HC.out _ (by repeat (first | (with_reducible exact ext_refl _) | (with_reducible refine ext_drew ?_) | (with_reducible refine ext_drewN ?_ _) | (with_reducible refine ext_alloc ?_ _) | (with_reducible refine ext_set ?_ (by first | omega | (simp <;> omega)) _)))).mono ?_); rintro e w1 ⟨rfl, hx1⟩; have m0 := (hx1.cells (w.heap.size) 0 (by simp <;> omega)).trans (show _ = some (.slice a1 n1 c1) by go_simp); have m1 := (hx1.cells (w.heap.size) 1 (by simp <;> omega)).trans (show _ = some (.int .i64 c) by go_simp); have r0 := (hx1.cells (w.heap.size + 1) 0 (by simp <;> omega)).trans (show _ = some (.slice none 0 0) by go_simp); have rf0 := (hx1.frz (w.heap.size + 1) 0 (by simp <;> omega)).trans (show _ = false by go_simp); have r1 := (hx1.cells (w.heap.size + 1) 1 (by simp <;> omega)).trans (show _ = some (.int .i64 0) by go_simp); have rf1 := (hx1.frz (w.heap.size + 1) 1 (by simp <;> omega)).trans (show _ = false by go_simp); have HX1 := Lib.hid hx1; have hs1 := hx1.size; simp at hs1; clear hx1))
        | (go_at_call 122; go_must ((with_reducible refine (HA.out _ (by repeat (first | (with_reducible exact ext_refl _) | (with_reducible refine ext_drew ?_) | (with_reducible refine ext_drewN ?_ _) | (with_reducible refine ext_alloc ?_ _) | (with_reducible refine ext_set ?_ (by first | omega | (simp <;> omega)) _) | (with_reducible refine ext_call ?_ HX1.out)))).mono ?_); rintro e w2 ⟨cs2, rfl, hm2, hx2⟩; have HM2 := Lib.hid (omk_mk hm2); obtain ⟨v2, rfl, hv2, _⟩ := hm2; obtain ⟨a3, n3, c3, rfl⟩ := osl_slice hv2; have hx3 := ext_call HX1.out hx2; have q0 := (hx3.cells (w.heap.size + 1) 0 (by simp <;> omega)).trans (show _ = some (.slice none 0 0) by go_simp); have qf0 := (hx3.frz (w.heap.size + 1) 0 (by simp <;> omega)).trans (show _ = false by go_simp); have q1 := (hx3.cells (w.heap.size + 1) 1 (by simp <;> omega)).trans (show _ = some (.int .i64 0) by go_simp); have qf1 := (hx3.frz (w.heap.size + 1) 1 (by simp <;> omega)).trans (show _ = false by go_simp); have HX3 := Lib.hid hx3; have hs2 := hx2.size; (try simp at hs2); clear hx2 hx3 hv2 m0 m1 r0 rf0 r1 rf1))
        | (go_at_call 108; go_must ((with_reducible refine (checkMark_any (gMk.ext HM2.out (ext_alloc (ext_refl _) _))).mono ?_); rintro e w3 ⟨rfl, hx4⟩; have b0 := (hx4.cells w2.heap.size 0 (by simp <;> omega)).trans (show _ = some (.slice a3 n3 c3) by go_simp); have b1 := (hx4.cells w2.heap.size 1 (by simp <;> omega)).trans (show _ = some (.int .i64 (c + k)) by go_simp); have hx5 := ext_call (ext_call HX3.out (ext_alloc (ext_refl _) _)) hx4; clear q0 qf0 q1 qf1; have q0 := (hx5.cells (w.heap.size + 1) 0 (by simp <;> omega)).trans (show _ = some (.slice none 0 0) by go_simp); have qf0 := (hx5.frz (w.heap.size + 1) 0 (by simp <;> omega)).trans (show _ = false by go_simp); have q1 := (hx5.cells (w.heap.size + 1) 1 (by simp <;> omega)).trans (show _ = some (.int .i64 0) by go_simp); have qf1 := (hx5.frz (w.heap.size + 1) 1 (by simp <;> omega)).trans (show _ = false by go_simp); have HX5 := Lib.hid hx5; have HX4 := Lib.hid hx4; have hs3 := hx4.size; (try simp at hs3); clear hx4 hx5))
        | (go_at_call 112; refine (between_any _ _ _ _).mono ?_; rintro e w9 ⟨rfl, rfl⟩))
    all_goals refine bodyPost_ret (v := .tuple #[.agg #[.slice none 0 0, .int .i64 0], .int .i64 (checkM (l, c))]) (by simp [results, Tryz.results113, go_sem, r0, r1, rf0, rf1, hs1]) rfl ⟨[.slice none 0 0, .int .i64 0], by rw [HE.out], by rw [HV.out]; exact ⟨_, rfl, RSl.nil_ (Nat.zero_le _), i64_small (by simp) (by simp)⟩, (by repeat (first | (with_reducible exact ext_refl _) | (with_reducible refine ext_drew ?_) | (with_reducible refine ext_drewN ?_ _) | (with_reducible refine ext_alloc ?_ _) | (with_reducible refine ext_set ?_ (by first | omega | (simp <;> omega)) _) | (with_reducible refine ext_call ?_ HX1.out)))⟩
end Go.Proofs.YtfgfdohppgoajaaGreat
/- Atoms of one's own. -/
namespace Go.Proofs.YtfgfdohppgoajaaGreat
open Go Go.RowKit Go.BigFrame Cp

theorem c_info : (Tryz.prog.info? 83).map (fun i => (i.zero, i.size, i.bytes)) = some (some (.agg #[.slice none 0 0, .int .i64 0, .int .u8 0]), 3, 40) := by kernel_rfl
theorem c_one {F : Nat → Prop} {W : World} {r : Nat} {v : Value} {p : List Stp} {c : Int} {s : UInt8} (h : RSl RStp 2 F W v p) (i : I64 c) (z0 : W.cell? ⟨r, 0, none⟩ = some v) (z1 : W.cell? ⟨r, 1, none⟩ = some (.int .i64 c)) (z2 : W.cell? ⟨r, 2, none⟩ = some (.int .u8 s.toNat))
    (hF : F r) (hr : r < W.heap.size) : RSl RAt 3 F W (.slice (some ⟨r, 0, none⟩) 1 1) [((p, c), s)] :=
  rsl_of_range (rangeAt3 z0 z1 z2) (chunks_one (x := ((p, c), s)) rfl ⟨_, rfl, h, i⟩) hF hr (Nat.le_refl _) (by unfold maxLen; omega)
theorem c_path {F : Nat → Prop} {w : World} {v : Value} {c : Int} {m : Mk} (h : RMk F w [v, .int .i64 c] m) : RSl RStp 2 F w v m.1 := by
  obtain ⟨v', e, h1, _⟩ := h
  injection e with e1 e2
  subst e1; exact h1
theorem c_len {a : Nat} (h : a ≤ 1000) : a + 1 ≤ maxLen := Nat.le_trans (by omega : a + 1 ≤ 1001) (by unfold maxLen; decide)
theorem c_byt {a : Nat} (h : a ≤ 1000) : (a + 1) * 40 ≤ 140737488355328 := by omega
/-- atoms in a row of one's own, all that they hold is new -/
def IsOwnA (l : List At) (w : World) (e : Ending) (w' : World) : Prop := ∃ v, e = .returned v ∧ OSl RAt 3 83 w.heap.size (fun j => w.heap.size ≤ j) w' v l ∧ Ext w w'
theorem take_snoc {α : Type} {l : List α} {k : Nat} {a : α} (h : l[k]? = some a) : l.take (k + 1) = l.take k ++ [a] := by
  obtain ⟨h1, h2⟩ := List.getElem?_eq_some_iff.1 h
  rw [List.take_succ_eq_append_getElem h1, h2]
set_option maxRecDepth 100000 in
set_option maxHeartbeats 4000000 in
theorem ownAtoms_any {F : Nat → Prop} {w : World} {v : Value} {l : List At} (h : RSl RAt 3 F w v l) (hl : l.length ≤ 1000) (hm : ∀ a ∈ l, a.1.1.length ≤ 8000000000000) :
    Calls Tryz.prog 72 #[v] w (IsOwnA l w) := by
  have HM := Lib.hid hm
  have HL := Lib.hid (fun (W : World) (hx : Ext w W) => h.ext gAt hx)
  obtain ⟨a0, n0, c0, rfl⟩ := h.slice
  obtain ⟨rfl, _, _⟩ := h.len
  obtain ⟨i0, hi0, hz0, hz1', hz2⟩ := info_parts c_info
  have HJ := Lib.hid hi0
  have HZ0 := Lib.hid hz0
  have HZ1 := Lib.hid hz1'
  have HZ2 := Lib.hid hz2
  clear h hm hi0 hz0 hz1' hz2
  go_enter Tryz.func72, Tryz.ntmps72
  go_wp2
  go_loopw [3, 8] (fun ov iv wr => ∃ k : Nat, k ≤ l.length ∧ iv = .int .i64 k ∧ Hid (OSl RAt 3 83 w.heap.size (fun j => w.heap.size ≤ j) wr ov (l.take k)) ∧ Ext w wr) (fun _ iv _ => l.length - (intOf iv).toNat)
  case atStart => exact ⟨0, Nat.zero_le _, rfl, Lib.hid osl_nil, ext_refl _⟩
  case round =>
    obtain ⟨k, hk, rfl, HO, hx⟩ := hrel
    have hzr := hx.size
    have HX := Lib.hid hx
    clear hx
    obtain ⟨a5, n5, c5, rfl⟩ := osl_slice HO.out
    by_cases hlt : k < l.length
    · obtain ⟨b, o, p, d, s, ap, cp, rfl, hb, ek, ick, hpp, y0, y1, y2⟩ := atm_at (HL.out wr HX.out) hlt
      have HOW := Lib.hid (fun (W : World) (hx : Ext wr W) => own_any (rmk_of' (hpp.ext gStp hx) ick) (HM.out _ (List.mem_of_getElem? ek)))
      have HIC := Lib.hid ick
      have HEK := Lib.hid (take_snoc ek)
      have HOL := Lib.hid (osl_lt HO.out)
      have hfl : (l.take k).length ≤ 1000 := by rw [List.length_take]; omega
      have hn1 : ¬ b = wr.heap.size := by omega
      generalize l.take k = fl at *
      clear ek ick hpp
      go_wp2_with fail
      refine wp_name (fun W1 eW1 => ?_)
      have e0 : W1.cell? ⟨wr.heap.size, 0, none⟩ = some (.slice ap p.length cp) := by rw [eW1]; go_simp
      have e1 : W1.cell? ⟨wr.heap.size, 1, none⟩ = some (.int .i64 d) := by rw [eW1]; go_simp
      have e2 : W1.cell? ⟨wr.heap.size, 2, none⟩ = some (.int .u8 s.toNat) := by rw [eW1]; go_simp
      have zW1_0 : wr.heap.size < W1.heap.size := by rw [eW1]; first | assumption | omega | (simp <;> omega)
      have hw1 : Ext wr W1 := by rw [eW1]; exact extA
      clear eW1
      have hzw := hw1.size
      go_region_held3 (fun W => W.cell? ⟨wr.heap.size, 0, none⟩ = some (.slice ap p.length cp) ∧ W.cell? ⟨wr.heap.size, 1, none⟩ = some (.int .i64 d) ∧ W.cell? ⟨wr.heap.size, 2, none⟩ = some (.int .u8 s.toNat))
        (first | go_keep | (refine ⟨?_, ?_, ?_⟩ <;> assumption) | (refine ⟨?_, ?_, ?_⟩ <;> (rw [hx9.cells _ _ (by first | omega | (simp <;> omega))]; first | assumption | go_simp)))
        (first
          | (go_at_call 73; go_must ((with_reducible refine (HOW.out _ extA).mono ?_); rintro e w2 ⟨cs2, rfl, hm2, hx2⟩; have HM2 := Lib.hid (omk_mk hm2); obtain ⟨v2, rfl, hv2, _⟩ := hm2; obtain ⟨a2, n2, c2, rfl⟩ := osl_slice hv2; clear hv2; have hz2 := hx2.size; (try simp at hz2); have hb2 : wr.heap.size < w2.heap.size := (by omega); have q0 := (hx2.cells (wr.heap.size) (0) (by first | omega | (simp <;> omega))).trans (show _ = some (.slice ap p.length cp) by first | assumption | go_simp); have q1 := (hx2.cells (wr.heap.size) (1) (by first | omega | (simp <;> omega))).trans (show _ = some (.int .i64 d) by first | assumption | go_simp); have q2 := (hx2.cells (wr.heap.size) (2) (by first | omega | (simp <;> omega))).trans (show _ = some (.int .u8 s.toNat) by first | assumption | go_simp)))
          | ((refine step_appAll gAt rfl (.tmp 12) (.tmp 19) 22 rfl w.heap.size 83 i0 _ 3 40 Tryz.underlying22 HJ.out HZ0.out HZ1.out HZ2.out rfl (by omega) (F := fun j => w.heap.size ≤ j) (G := fun j => wr.heap.size ≤ j) (.slice a5 n5 c5) fl rfl (osl_ext gAt HO.out extA) (.slice (some ⟨w2.heap.size, 0, none⟩) 1 1) [((p, d), s)] rfl (c_one (RSl.more gStp (fun j hj _ => (show wr.heap.size ≤ j by first | omega | (simp at hj; omega))) ((c_path HM2.out).ext gStp extA)) HIC.out (by first | assumption | go_simp) (by first | assumption | (go_simp <;> rfl)) (by first | assumption | go_simp) (by first | omega | (simp <;> omega)) (by first | omega | (simp <;> omega))) one_at (fun j hj _ => ⟨(show w.heap.size ≤ j by omega), fun e => by have := HOL.out j e.symm; omega⟩) (c_len hfl) (c_byt hfl) (by first | omega | (simp <;> omega)) ?_); intro v9 w9 hown9 hg9 hat9; have hx9 : Ext w w9 := ext_grow (ext_trans HX.out extA) hg9 (fun j hj => (HOL.out j hj).1); have r0 := hg9.cell (a := ⟨wr.heap.size, 0, none⟩) (v := .slice ap p.length cp) (by first | assumption | go_simp) (fun e => absurd (HOL.out _ e.symm).2 (Nat.lt_irrefl _)); have r1 := hg9.cell (a := ⟨wr.heap.size, 1, none⟩) (v := .int .i64 d) (by first | assumption | go_simp) (fun e => absurd (HOL.out _ e.symm).2 (Nat.lt_irrefl _)); have r2 := hg9.cell (a := ⟨wr.heap.size, 2, none⟩) (v := .int .u8 s.toNat) (by first | assumption | go_simp) (fun e => absurd (HOL.out _ e.symm).2 (Nat.lt_irrefl _))))
      all_goals
        have HN := Lib.hid (show OSl RAt 3 83 w.heap.size (fun j => w.heap.size ≤ j) w9 v9 (l.take (k + 1)) by rw [HEK.out]; exact hown9)
        clear hown9 hg9 hat9
        go_wp2_with fail
        go_roundw
        case rel => exact ⟨k + 1, by omega, by go_num, HN, hx9⟩
        case measure => simp [intOf]; omega
    · have hkl : k = l.length := by omega
      subst hkl
      have HF := Lib.hid (show OSl RAt 3 83 w.heap.size (fun j => w.heap.size ≤ j) wr (.slice a5 n5 c5) l by have := HO.out; rwa [List.take_of_length_le (Nat.le_refl _)] at this)
      go_wp2
      go_ret
      exact ⟨_, rfl, HF.out, HX.out⟩
end Go.Proofs.YtfgfdohppgoajaaGreat
/- States of one's own: nothing of them is shared. -/
namespace Go.Proofs.YtfgfdohppgoajaaGreat
open Go Go.RowKit Go.BigFrame Cp

theorem cm_info : (Tryz.prog.info? 47).map (fun i => (i.zero, i.size, i.bytes)) = some (some (.agg #[.slice none 0 0, .int .i64 0]), 2, 32) := by kernel_rfl
theorem cm_one {F : Nat → Prop} {W : World} {r : Nat} {v : Value} {p : List Stp} {c : Int} (h : RSl RStp 2 F W v p) (i : I64 c) (z0 : W.cell? ⟨r, 0, none⟩ = some v) (z1 : W.cell? ⟨r, 1, none⟩ = some (.int .i64 c))
    (hF : F r) (hr : r < W.heap.size) : RSl RMk 2 F W (.slice (some ⟨r, 0, none⟩) 1 1) [(p, c)] :=
  rsl_of_range (rangeAt2 z0 z1) (chunks_one (x := (p, c)) rfl ⟨_, rfl, h, i⟩) hF hr (Nat.le_refl _) (by unfold maxLen; omega)
theorem cm_byt {a : Nat} (h : a ≤ 1000) : (a + 1) * 32 ≤ 140737488355328 := by omega
theorem osl_more {α : Type} {R : Rd α} (g : Cp.Good R) {sz e base : Nat} {F G : Nat → Prop} {w : World} {v : Value} {l : List α} (h : OSl R sz e base F w v l) (hG : ∀ k, F k → k < w.heap.size → some k ≠ v.ownBlock → G k) : OSl R sz e base G w v l := by
  obtain ⟨xs, h1, h2⟩ := h
  exact ⟨xs, h1, chunks_more g (fun k hk hl => ⟨hG k hk.1 hl hk.2, hk.2⟩) h2⟩
/-- a state of one's own: two rows, and neither is the other's, nor holds the other's elements -/
def IsOwnS (s : St) (w : World) (e : Ending) (w' : World) : Prop := ∃ v u, e = .returned (.agg #[v, u]) ∧ OSl RAt 3 83 w.heap.size (fun j => w.heap.size ≤ j ∧ some j ≠ u.ownBlock) w' v s.1 ∧
  OSl RMk 2 47 w.heap.size (fun j => w.heap.size ≤ j ∧ some j ≠ v.ownBlock) w' u s.2 ∧ (∀ j, v.ownBlock = some j → u.ownBlock ≠ some j) ∧ Ext w w'
set_option maxRecDepth 100000 in
set_option maxHeartbeats 4000000 in
theorem ownState_any {F : Nat → Prop} {w : World} {cs : List Value} {s : St} (h : RSt F w cs s) (hl : s.1.length ≤ 1000) (hg : s.2.length ≤ 1000) (hml : ∀ a ∈ s.1, a.1.1.length ≤ 8000000000000) (hmg : ∀ m ∈ s.2, m.1.length ≤ 8000000000000) :
    Calls Tryz.prog 94 #[.agg cs.toArray] w (IsOwnS s w) := by
  obtain ⟨v, u, rfl, h1, h2⟩ := h
  obtain ⟨l, g⟩ := s
  simp only at h1 h2 hl hg hml hmg ⊢
  have HM := Lib.hid hmg
  have HOA := Lib.hid (fun (W : World) (hx : Ext w W) => ownAtoms_any (h1.ext gAt hx) hl hml)
  have HL := Lib.hid (fun (W : World) (hx : Ext w W) => h2.ext gMk hx)
  obtain ⟨a0, n0, c0, rfl⟩ := h1.slice
  obtain ⟨a1, n1, c1, rfl⟩ := h2.slice
  obtain rfl : n1 = g.length := h2.len.1
  obtain ⟨i0, hi0, hz0, hz1', hz2⟩ := info_parts cm_info
  have HJ := Lib.hid hi0
  have HZ0 := Lib.hid hz0
  have HZ1 := Lib.hid hz1'
  have HZ2 := Lib.hid hz2
  clear h1 h2 hml hmg hi0 hz0 hz1' hz2
  go_enter Tryz.func94, Tryz.ntmps94
  go_wp2_with (go_at_call 72; go_must ((with_reducible refine (HOA.out _ extA).mono ?_); rintro e w1 ⟨v1, rfl, hv1, hx1⟩; obtain ⟨a2, n2, c2, rfl⟩ := osl_slice hv1; have hz1 := hx1.size; (try simp at hz1); have hb1 : w.heap.size < w1.heap.size := (by omega); have hb2 : w.heap.size + 1 < w1.heap.size := (by omega); have q0 := (hx1.cells (w.heap.size) (0) (by first | omega | (simp <;> omega))).trans (show _ = some (.slice a0 n0 c0) by first | assumption | go_simp); have q1 := (hx1.cells (w.heap.size) (1) (by first | omega | (simp <;> omega))).trans (show _ = some (.slice a1 g.length c1) by first | assumption | go_simp); have q2 := (hx1.cells (w.heap.size + 1) (0) (by first | omega | (simp <;> omega))).trans (show _ = some (.slice none 0 0) by first | assumption | go_simp); have q3 := (hx1.cells (w.heap.size + 1) (1) (by first | omega | (simp <;> omega))).trans (show _ = some (.slice none 0 0) by first | assumption | go_simp); have qf0 := (hx1.frz (w.heap.size + 1) (0) (by first | omega | (simp <;> omega))).trans (show _ = false by first | assumption | go_simp); have qf1 := (hx1.frz (w.heap.size + 1) (1) (by first | omega | (simp <;> omega))).trans (show _ = false by first | assumption | go_simp)))
  refine wp_name (fun wb ewb => ?_)
  have b0 : wb.cell? ⟨w1.heap.size, 0, none⟩ = some (.slice a2 n2 c2) := by rw [ewb]; go_simp
  have b1 : wb.cell? ⟨w1.heap.size, 1, none⟩ = some (.slice none 0 0) := by rw [ewb]; go_simp
  have f0 : wb.frozen? ⟨w1.heap.size, 0, none⟩ = false := by rw [ewb]; go_simp
  have f1 : wb.frozen? ⟨w1.heap.size, 1, none⟩ = false := by rw [ewb]; go_simp
  have d0 : wb.cell? ⟨w.heap.size + 1, 0, none⟩ = some (.slice none 0 0) := by rw [ewb]; go_simp
  have d1 : wb.cell? ⟨w.heap.size + 1, 1, none⟩ = some (.slice none 0 0) := by rw [ewb]; go_simp
  have e0 : wb.frozen? ⟨w.heap.size + 1, 0, none⟩ = false := by rw [ewb]; go_simp
  have e1 : wb.frozen? ⟨w.heap.size + 1, 1, none⟩ = false := by rw [ewb]; go_simp
  have hsb : wb.heap.size = w1.heap.size + 1 := by rw [ewb]; simp
  have hwb : Ext w wb := by rw [ewb]; exact extA
  have HWB := Lib.hid hwb
  have hv1' : OSl RAt 3 83 (w.heap.size + 1 + 1) (fun j => w.heap.size + 1 + 1 ≤ j) w1 (.slice a2 n2 c2) l := by simpa using hv1
  have HV1 := Lib.hid (show OSl RAt 3 83 (w.heap.size + 1 + 1) (fun j => w.heap.size + 1 + 1 ≤ j ∧ j < w1.heap.size) wb (.slice a2 n2 c2) l by rw [ewb]; exact osl_ext gAt (osl_more gAt hv1' (fun k hk hlt _ => ⟨hk, hlt⟩)) extA)
  have HB1 := Lib.hid (osl_lt hv1')
  clear hv1'
  clear ewb hwb hv1 hx1
  have HKB := Lib.hid (show Keeps (fun j => j < wb.heap.size ∧ j ≠ w1.heap.size) wb wb from keeps_refl)
  go_loopw [13] (fun iv wr => ∃ (k : Nat) (a5 : Option Addr) (n5 c5 : Nat), k ≤ g.length ∧ iv = .int .i64 k ∧ wr.cell? ⟨w1.heap.size, 1, none⟩ = some (.slice a5 n5 c5) ∧ wr.frozen? ⟨w1.heap.size, 1, none⟩ = false ∧ wr.cell? ⟨w1.heap.size, 0, none⟩ = some (.slice a2 n2 c2) ∧
    Hid (OSl RMk 2 47 (w1.heap.size + 1) (fun j => w1.heap.size + 1 ≤ j) wr (.slice a5 n5 c5) (g.take k)) ∧ Hid (Keeps (fun j => j < wb.heap.size ∧ j ≠ w1.heap.size) wb wr) ∧ Ext w wr) (fun iv _ => g.length - (intOf iv).toNat)
  case atStart => exact ⟨0, none, 0, 0, Nat.zero_le _, rfl, b1, f1, b0, Lib.hid osl_nil, HKB, HWB.out⟩
  case round =>
    obtain ⟨k, a5, n5, c5, hk, rfl, x1, xf, x0, HO, HK, hx⟩ := hrel
    have hzr := HK.out.size
    have HX := Lib.hid hx
    have HOL := Lib.hid (osl_lt HO.out)
    clear hx b0 b1 f0 f1
    by_cases hlt : k < g.length
    · obtain ⟨b, o, p, d, ap, cp, rfl, hb, ek, ick, hpp, y0, y1⟩ := mark_at (HL.out wr HX.out) hlt
      have HOW := Lib.hid (fun (W : World) (hx : Ext wr W) => own_any (rmk_of' (hpp.ext gStp hx) ick) (HM.out _ (List.mem_of_getElem? ek)))
      have HIC := Lib.hid ick
      have HEK := Lib.hid (take_snoc ek)
      have hfl : (g.take k).length ≤ 1000 := by rw [List.length_take]; omega
      generalize g.take k = fl at *
      have hn1 : ¬ w1.heap.size = wr.heap.size := by omega
      have hn2 : ¬ b = wr.heap.size := by omega
      have hn3 : w1.heap.size < wr.heap.size := by omega
      clear ek ick hpp d0 d1 e0 e1
      go_wp2_with fail
      go_region_law (first
        | ((refine step_appAll gMk rfl (.tmp 18) (.tmp 21) 23 rfl (w1.heap.size + 1) 47 i0 _ 2 32 Tryz.underlying23 HJ.out HZ0.out HZ1.out HZ2.out rfl (by omega) (F := fun j => w1.heap.size + 1 ≤ j) (G := fun j => wr.heap.size ≤ j) (.slice a5 n5 c5) fl rfl (osl_ext gMk HO.out extA) (.slice (some ⟨w2.heap.size, 0, none⟩) 1 1) [(p, d)] rfl (cm_one (RSl.more gStp (fun j hj _ => (show wr.heap.size ≤ j by first | omega | (simp at hj; omega))) ((c_path HM2.out).ext gStp extA)) HIC.out (by first | assumption | go_simp) (by first | assumption | (go_simp <;> rfl)) (by first | omega | (simp <;> omega)) (by first | omega | (simp <;> omega))) one_mk (fun j hj _ => ⟨(show w1.heap.size + 1 ≤ j by omega), fun e => by have := HOL.out j e.symm; omega⟩) (c_len hfl) (cm_byt hfl) (by first | omega | (simp <;> omega)) ?_); intro v9 w9 hown9 hg9 hat9; obtain ⟨a9, n9, c9, rfl⟩ := osl_slice hown9; have hx9 : Ext w w9 := ext_grow (ext_trans HX.out extA) hg9 (fun j hj => by have := (HOL.out j hj).1; omega); have hbO := hg9.block w1.heap.size (by first | omega | (simp <;> omega)) (fun e => by have := (HOL.out _ e.symm).1; omega); have r1 := (World.cell?_of_block (a := ⟨w1.heap.size, 1, none⟩) hbO).trans (show _ = some (.slice a5 n5 c5) by first | assumption | go_simp); have r0 := (World.cell?_of_block (a := ⟨w1.heap.size, 0, none⟩) hbO).trans (show _ = some (.slice a2 n2 c2) by first | assumption | go_simp); have rf := (World.frozen?_of_block (a := ⟨w1.heap.size, 1, none⟩) hbO).trans (show _ = false by first | assumption | go_simp); have HK9 := Lib.hid (Keeps.trans (keeps_ext HK.out extA) ⟨hg9.size, fun j hj hlt => hg9.block j hlt (fun e => by have := (HOL.out _ e.symm).1; omega)⟩); have HN9 := Lib.hid hown9; clear hown9 hg9 hat9)
        | (go_simp; go_at_call 73; go_must ((with_reducible refine (HOW.out _ extA).mono ?_); rintro e w2 ⟨cs2, rfl, hm2, hx2⟩; have HM2 := Lib.hid (omk_mk hm2); obtain ⟨v2, rfl, hv2, _⟩ := hm2; obtain ⟨a3, n3, c3, rfl⟩ := osl_slice hv2; clear hv2; have hz2 := hx2.size; (try simp at hz2); have hb2 : wr.heap.size < w2.heap.size := (by omega); have hn8 : ¬ w1.heap.size = w2.heap.size := (by omega); have hb3 : w1.heap.size < w2.heap.size := (by omega); have q0 := (hx2.cells (w1.heap.size) (0) (by first | omega | (simp <;> omega))).trans (show _ = some (.slice a2 n2 c2) by first | assumption | go_simp); have q1 := (hx2.cells (w1.heap.size) (1) (by first | omega | (simp <;> omega))).trans (show _ = some (.slice a5 n5 c5) by first | assumption | go_simp); have q2 := (hx2.cells (wr.heap.size) (0) (by first | omega | (simp <;> omega))).trans (show _ = some (.slice ap p.length cp) by first | assumption | go_simp); have q3 := (hx2.cells (wr.heap.size) (1) (by first | omega | (simp <;> omega))).trans (show _ = some (.int .i64 d) by first | assumption | go_simp); have qf0 := (hx2.frz (w1.heap.size) (1) (by first | omega | (simp <;> omega))).trans (show _ = false by first | assumption | go_simp))))
      all_goals
        go_wp2_with fail
        go_roundw
        case rel =>
          exact ⟨k + 1, a9, n9, c9, by omega, by go_num, by go_simp, by go_simp, by go_simp,
            Lib.hid (osl_keep gMk (w := w9) (by rw [HEK.out]; exact HN9.out) (keeps_set keeps_refl (fun _ h => by
              rcases h with h | h
              · have h' : w1.heap.size + 1 ≤ w1.heap.size := h
                omega
              · have h' : w1.heap.size + 1 ≤ w1.heap.size := (osl_lt HN9.out _ h.symm).1
                omega) _)), Lib.hid (keeps_set HK9.out (fun _ h => h.2 rfl) _), ext_set hx9 (by show w.heap.size ≤ w1.heap.size; omega) _⟩
        case measure => simp [intOf]; omega
    · obtain rfl : k = g.length := by omega
      have HF := Lib.hid (show OSl RMk 2 47 (w1.heap.size + 1) (fun j => w1.heap.size + 1 ≤ j) wr (.slice a5 n5 c5) g by have := HO.out; rwa [List.take_of_length_le (Nat.le_refl _)] at this)
      have k0 := World.cell?_of_block (a := ⟨w.heap.size + 1, 0, none⟩) (HK.out.block (w.heap.size + 1) ⟨by omega, by omega⟩ (by omega))
      have k1 := World.cell?_of_block (a := ⟨w.heap.size + 1, 1, none⟩) (HK.out.block (w.heap.size + 1) ⟨by omega, by omega⟩ (by omega))
      have g0 := (World.frozen?_of_block (a := ⟨w.heap.size + 1, 0, none⟩) (HK.out.block (w.heap.size + 1) ⟨by omega, by omega⟩ (by omega))).trans e0
      have g1 := (World.frozen?_of_block (a := ⟨w.heap.size + 1, 1, none⟩) (HK.out.block (w.heap.size + 1) ⟨by omega, by omega⟩ (by omega))).trans e1
      rw [d0] at k0
      rw [d1] at k1
      have hn5 : ¬ w1.heap.size = w.heap.size + 1 := by omega
      have hn6 : ¬ w.heap.size + 1 = w1.heap.size := by omega
      clear d0 d1 e0 e1
      go_wp2
      refine bodyPost_ret (v := .agg #[.slice a2 n2 c2, .slice a5 n5 c5]) (by simp [results, Tryz.results94, go_sem, k0, k1]) rfl ⟨_, _, rfl, ?_, ?_, ?_, ?_⟩
      · refine osl_more gAt (osl_base (by omega) (osl_keep gAt HV1.out (keeps_set (keeps_set (HK.out.weaken (fun j hj h => ?_)) (fun _ h => ?_) _) (fun _ h => ?_) _))) (fun j hj hlt hn => ⟨by omega, fun e => ?_⟩)
        · rcases h with h | h
          · exact ⟨hj, by omega⟩
          · have := (HB1.out j h.symm).2; exact ⟨hj, by omega⟩
        · rcases h with h | h
          · have h' : w.heap.size + 1 + 1 ≤ w.heap.size + 1 ∧ w.heap.size + 1 < w1.heap.size := h
            omega
          · have h' : w.heap.size + 1 + 1 ≤ w.heap.size + 1 := (HB1.out _ h.symm).1
            omega
        · rcases h with h | h
          · have h' : w.heap.size + 1 + 1 ≤ w.heap.size + 1 ∧ w.heap.size + 1 < w1.heap.size := h
            omega
          · have h' : w.heap.size + 1 + 1 ≤ w.heap.size + 1 := (HB1.out _ h.symm).1
            omega
        · have := (HOL.out j e.symm).1; omega
      · refine osl_more gMk (osl_base (by omega) (osl_keep gMk HF.out (keeps_set (keeps_set keeps_refl (fun _ h => ?_) _) (fun _ h => ?_) _))) (fun j hj hlt hn => ⟨by omega, fun e => ?_⟩)
        · rcases h with h | h
          · have h' : w1.heap.size + 1 ≤ w.heap.size + 1 := h
            omega
          · have h' : w1.heap.size + 1 ≤ w.heap.size + 1 := (HOL.out _ h.symm).1
            omega
        · rcases h with h | h
          · have h' : w1.heap.size + 1 ≤ w.heap.size + 1 := h
            omega
          · have h' : w1.heap.size + 1 ≤ w.heap.size + 1 := (HOL.out _ h.symm).1
            omega
        · have := (HB1.out j e.symm).2; omega
      · exact fun j h1 h2 => by have := (HB1.out j h1).2; have := (HOL.out j h2).1; omega
      · exact ext_set (ext_set HX.out (by show w.heap.size ≤ w.heap.size + 1; omega) _) (by show w.heap.size ≤ w.heap.size + 1; omega) _
end Go.Proofs.YtfgfdohppgoajaaGreat
/- What is wrong with a run. -/
namespace Go.Proofs.YtfgfdohppgoajaaGreat
open Go Go.RowKit Go.BigFrame Cp

theorem tx_bytes {v : Value} {t : Tx} (h : RTx v t) : ∃ s : ByteArray, v = .string s ∧ t = s.data.toList ∧ s.size ≤ 140737488351232 := by
  obtain ⟨rfl, h⟩ := h
  exact ⟨⟨t.toArray⟩, rfl, by simp, by simpa [ByteArray.size] using h⟩
theorem tx_max {n : Nat} (h : n ≤ 140737488351232) : n ≤ maxLen := by unfold maxLen; omega
theorem bytes_nil {s : ByteArray} (h : s.size = 0) : s.data.toList = [] := by
  exact List.length_eq_zero_iff.1 (by simpa using h)
theorem bytes_cons {s : ByteArray} (h : ¬ s.size = 0) : s.data.toList ≠ [] := by
  intro e
  apply h
  have : s.data.toList.length = 0 := by rw [e]; rfl
  simpa using this
theorem empty_yes {s : ByteArray} (h : s.size = 0) : s.toList.isEmpty = true := by rw [ByteArray.toList_eq, bytes_nil h]; rfl
theorem empty_no {s : ByteArray} (h : ¬ s.size = 0) : s.toList.isEmpty = false := by
  rw [ByteArray.toList_eq]
  cases hl : s.data.toList with
  | nil => exact absurd hl (bytes_cons h)
  | cons _ _ => rfl
section
variable {m : Mk} {s : ByteArray}
theorem checkR_mark (h : ¬ checkM m = 0) : checkR (m, s.data.toList) = checkM m := by unfold checkR; rw [if_pos h]
theorem checkR_nil (h : checkM m = 0) (h2 : s.size = 0) : checkR (m, s.data.toList) = 1 := by unfold checkR; rw [if_neg (by simpa using h), if_pos (bytes_nil h2)]
theorem checkR_many (h : checkM m = 0) (h2 : ¬ s.size = 0) (h3 : 60 < s.size) : checkR (m, s.data.toList) = 2 := by unfold checkR; rw [if_neg (by simpa using h), if_neg (bytes_cons h2), if_pos (by simpa using h3)]
theorem checkR_sign (h : checkM m = 0) (h2 : ¬ s.size = 0) (h3 : ¬ 60 < s.size) (h4 : signsB s.data.toList = false) : checkR (m, s.data.toList) = 3 := by
  unfold checkR; rw [if_neg (by simpa using h), if_neg (bytes_cons h2), if_neg (by simpa using h3), if_pos h4]
theorem checkR_next (h : checkM m = 0) (h2 : ¬ s.size = 0) (h3 : ¬ 60 < s.size) (h4 : signsB s.data.toList = true) : checkR (m, s.data.toList) = (nextM m ((s.size : Int) - 1)).2 := by
  unfold checkR; rw [if_neg (by simpa using h), if_neg (bytes_cons h2), if_neg (by simpa using h3), if_neg (by rw [h4]; simp)]
  have : s.data.toList.length = s.size := by simp
  simp only [this]
end
theorem rrn_of {F : Nat → Prop} {w : World} {v : Value} {l : List Stp} {c : Int} {s : Value} {t : Tx} (h : RSl RStp 2 F w v l) (i : I64 c) (k : RTx s t) : RRn F w [v, .int .i64 c, s] ((l, c), t) := ⟨v, s, rfl, h, i, k⟩

set_option maxRecDepth 100000 in
set_option maxHeartbeats 4000000 in
theorem checkRunP_any {F : Nat → Prop} {w : World} {cs : List Value} {r : Rn} (h : RRn F w cs r) :
    Calls Tryz.prog 55 #[.agg cs.toArray] w fun e w' => e = .returned (.int .i64 (checkR r)) ∧ Ext w w' := by
  obtain ⟨v, u, rfl, hl, hi, hu⟩ := h
  obtain ⟨⟨l, c⟩, t⟩ := r
  simp only at hl hi hu ⊢
  obtain ⟨s, rfl, rfl, hs⟩ := tx_bytes hu
  have HC := Lib.hid (fun (W : World) (hx : Ext w W) => check_any (rmk_of' (hl.ext gStp hx) hi))
  have HN := Lib.hid (fun (W : World) (hx : Ext w W) => next_any (k := (s.size : Int) - 1) (rmk_of' (hl.ext gStp hx) hi))
  have HG := Lib.hid (fun (W : World) => signs_any s W (tx_max hs))
  obtain ⟨a1, n1, c1, rfl⟩ := hl.slice
  clear hl hi hu
  by_cases h0 : checkM (l, c) = 0
  · have H0 := Lib.hid h0
    rw [h0] at HC
    clear h0
    by_cases h1 : s.size = 0
    · rw [checkR_nil H0.out h1]
      have t1 : s.toList.isEmpty = true := empty_yes h1
      clear h1
      go_enter Tryz.func55, Tryz.ntmps55
      go_wp2_with (first
        | (go_at_call 58; go_must ((with_reducible refine (HC.out _ extA).mono ?_); rintro e w1 ⟨rfl, hx1⟩; have hz1 := hx1.size; (try simp at hz1); have hb1_0 : w.heap.size < w1.heap.size := (by omega); have p0 := (hx1.cells (w.heap.size) (0) (by first | omega | (simp <;> omega))).trans (show _ = some (.slice a1 n1 c1) by first | assumption | go_simp); have p1 := (hx1.cells (w.heap.size) (1) (by first | omega | (simp <;> omega))).trans (show _ = some (.int .i64 c) by first | assumption | go_simp); have p2 := (hx1.cells (w.heap.size) (2) (by first | omega | (simp <;> omega))).trans (show _ = some (.string s) by first | assumption | go_simp)))
        | (go_at_call 47; go_must ((with_reducible refine (HG.out _).mono ?_); rintro e w' ⟨rfl, rfl⟩))
        | (go_at_call 34; go_must ((with_reducible refine (HN.out _ extA).mono ?_); rintro e w3 ⟨cs3, rfl, hm3, hx3⟩)))
      go_ret
      exact ⟨rfl, extA⟩
    have t1 : s.toList.isEmpty = false := empty_no h1
    have hp : 0 < s.size := by omega
    by_cases h3 : 60 < s.size
    · rw [checkR_many H0.out h1 h3]
      clear h1
      go_enter Tryz.func55, Tryz.ntmps55
      go_wp2_with (first
        | (go_at_call 58; go_must ((with_reducible refine (HC.out _ extA).mono ?_); rintro e w1 ⟨rfl, hx1⟩; have hz1 := hx1.size; (try simp at hz1); have hb1_0 : w.heap.size < w1.heap.size := (by omega); have p0 := (hx1.cells (w.heap.size) (0) (by first | omega | (simp <;> omega))).trans (show _ = some (.slice a1 n1 c1) by first | assumption | go_simp); have p1 := (hx1.cells (w.heap.size) (1) (by first | omega | (simp <;> omega))).trans (show _ = some (.int .i64 c) by first | assumption | go_simp); have p2 := (hx1.cells (w.heap.size) (2) (by first | omega | (simp <;> omega))).trans (show _ = some (.string s) by first | assumption | go_simp)))
        | (go_at_call 47; go_must ((with_reducible refine (HG.out _).mono ?_); rintro e w' ⟨rfl, rfl⟩))
        | (go_at_call 34; go_must ((with_reducible refine (HN.out _ extA).mono ?_); rintro e w3 ⟨cs3, rfl, hm3, hx3⟩)))
      go_ret
      exact ⟨rfl, extA⟩
    cases h4 : signsB s.data.toList with
    | false =>
      rw [checkR_sign H0.out h1 h3 h4]
      rw [h4] at HG
      clear h1
      go_enter Tryz.func55, Tryz.ntmps55
      go_wp2_with (first
        | (go_at_call 58; go_must ((with_reducible refine (HC.out _ extA).mono ?_); rintro e w1 ⟨rfl, hx1⟩; have hz1 := hx1.size; (try simp at hz1); have hb1_0 : w.heap.size < w1.heap.size := (by omega); have p0 := (hx1.cells (w.heap.size) (0) (by first | omega | (simp <;> omega))).trans (show _ = some (.slice a1 n1 c1) by first | assumption | go_simp); have p1 := (hx1.cells (w.heap.size) (1) (by first | omega | (simp <;> omega))).trans (show _ = some (.int .i64 c) by first | assumption | go_simp); have p2 := (hx1.cells (w.heap.size) (2) (by first | omega | (simp <;> omega))).trans (show _ = some (.string s) by first | assumption | go_simp)))
        | (go_at_call 47; go_must ((with_reducible refine (HG.out _).mono ?_); rintro e w' ⟨rfl, rfl⟩))
        | (go_at_call 34; go_must ((with_reducible refine (HN.out _ extA).mono ?_); rintro e w3 ⟨cs3, rfl, hm3, hx3⟩)))
      go_ret
      exact ⟨rfl, extA⟩
    | true =>
      rw [checkR_next H0.out h1 h3 h4]
      rw [h4] at HG
      clear h1
      generalize nextM (l, c) ((s.size : Int) - 1) = nx at *
      obtain ⟨nm, er⟩ := nx
      simp only at HN ⊢
      go_enter Tryz.func55, Tryz.ntmps55
      go_wp2_with (first
        | (go_at_call 58; go_must ((with_reducible refine (HC.out _ extA).mono ?_); rintro e w1 ⟨rfl, hx1⟩; have hz1 := hx1.size; (try simp at hz1); have hb1_0 : w.heap.size < w1.heap.size := (by omega); have p0 := (hx1.cells (w.heap.size) (0) (by first | omega | (simp <;> omega))).trans (show _ = some (.slice a1 n1 c1) by first | assumption | go_simp); have p1 := (hx1.cells (w.heap.size) (1) (by first | omega | (simp <;> omega))).trans (show _ = some (.int .i64 c) by first | assumption | go_simp); have p2 := (hx1.cells (w.heap.size) (2) (by first | omega | (simp <;> omega))).trans (show _ = some (.string s) by first | assumption | go_simp)))
        | (go_at_call 47; go_must ((with_reducible refine (HG.out _).mono ?_); rintro e w' ⟨rfl, rfl⟩))
        | (go_at_call 34; go_must ((with_reducible refine (HN.out _ extA).mono ?_); rintro e w3 ⟨cs3, rfl, hm3, hx3⟩)))
      go_ret
      exact ⟨rfl, extA⟩
  · rw [checkR_mark h0]
    have t1 : (checkM (l, c) != 0) = true := by simpa using h0
    generalize checkM (l, c) = r at *
    clear h0
    go_enter Tryz.func55, Tryz.ntmps55
    go_wp2_with (first
      | (go_at_call 58; go_must ((with_reducible refine (HC.out _ extA).mono ?_); rintro e w1 ⟨rfl, hx1⟩; have hz1 := hx1.size; (try simp at hz1); have hb1_0 : w.heap.size < w1.heap.size := (by omega); have p0 := (hx1.cells (w.heap.size) (0) (by first | omega | (simp <;> omega))).trans (show _ = some (.slice a1 n1 c1) by first | assumption | go_simp); have p1 := (hx1.cells (w.heap.size) (1) (by first | omega | (simp <;> omega))).trans (show _ = some (.int .i64 c) by first | assumption | go_simp); have p2 := (hx1.cells (w.heap.size) (2) (by first | omega | (simp <;> omega))).trans (show _ = some (.string s) by first | assumption | go_simp)))
      | (go_at_call 47; go_must ((with_reducible refine (HG.out _).mono ?_); rintro e w' ⟨rfl, rfl⟩))
      | (go_at_call 34; go_must ((with_reducible refine (HN.out _ extA).mono ?_); rintro e w3 ⟨cs3, rfl, hm3, hx3⟩)))
    go_ret
    exact ⟨rfl, extA⟩

set_option maxRecDepth 100000 in
set_option maxHeartbeats 4000000 in
theorem checkRun_any {F : Nat → Prop} {w : World} {cs : List Value} {r : Rn} (h : RRn F w cs r) :
    Calls Tryz.prog 111 #[.agg cs.toArray] w fun e w' => e = .returned (.int .i64 (checkR r)) ∧ Ext w w' := by
  obtain ⟨v, u, rfl, hl, hi, hu⟩ := h
  obtain ⟨⟨l, c⟩, t⟩ := r
  simp only at hl hi hu ⊢
  obtain ⟨s, rfl, rfl, hs⟩ := tx_bytes hu
  have HC := Lib.hid (fun (W : World) (hx : Ext w W) => checkMark_any (rmk_of' (hl.ext gStp hx) hi))
  have HN := Lib.hid (fun (W : World) (hx : Ext w W) => nextOf_any (k := (s.size : Int) - 1) (rmk_of' (hl.ext gStp hx) hi))
  have HG := Lib.hid (fun (W : World) => areSigns_any s W (tx_max hs))
  obtain ⟨a1, n1, c1, rfl⟩ := hl.slice
  clear hl hi hu
  by_cases h0 : checkM (l, c) = 0
  · have H0 := Lib.hid h0
    rw [h0] at HC
    clear h0
    by_cases h1 : s.size = 0
    · rw [checkR_nil H0.out h1]
      have t1 : s.toList.isEmpty = true := empty_yes h1
      clear h1
      go_enter Tryz.func111, Tryz.ntmps111
      go_wp2_with (first
        | (go_at_call 108; go_must ((with_reducible refine (HC.out _ extA).mono ?_); rintro e w1 ⟨rfl, hx1⟩; have hz1 := hx1.size; (try simp at hz1); have hb1_0 : w.heap.size < w1.heap.size := (by omega); have p0 := (hx1.cells (w.heap.size) (0) (by first | omega | (simp <;> omega))).trans (show _ = some (.slice a1 n1 c1) by first | assumption | go_simp); have p1 := (hx1.cells (w.heap.size) (1) (by first | omega | (simp <;> omega))).trans (show _ = some (.int .i64 c) by first | assumption | go_simp); have p2 := (hx1.cells (w.heap.size) (2) (by first | omega | (simp <;> omega))).trans (show _ = some (.string s) by first | assumption | go_simp)))
        | (go_at_call 136; go_must ((with_reducible refine (HG.out _).mono ?_); rintro e w' ⟨rfl, rfl⟩))
        | (go_at_call 113; go_must ((with_reducible refine (HN.out _ extA).mono ?_); rintro e w3 ⟨cs3, rfl, hm3, hx3⟩)))
      go_ret
      exact ⟨rfl, extA⟩
    have t1 : s.toList.isEmpty = false := empty_no h1
    have hp : 0 < s.size := by omega
    by_cases h3 : 60 < s.size
    · rw [checkR_many H0.out h1 h3]
      clear h1
      go_enter Tryz.func111, Tryz.ntmps111
      go_wp2_with (first
        | (go_at_call 108; go_must ((with_reducible refine (HC.out _ extA).mono ?_); rintro e w1 ⟨rfl, hx1⟩; have hz1 := hx1.size; (try simp at hz1); have hb1_0 : w.heap.size < w1.heap.size := (by omega); have p0 := (hx1.cells (w.heap.size) (0) (by first | omega | (simp <;> omega))).trans (show _ = some (.slice a1 n1 c1) by first | assumption | go_simp); have p1 := (hx1.cells (w.heap.size) (1) (by first | omega | (simp <;> omega))).trans (show _ = some (.int .i64 c) by first | assumption | go_simp); have p2 := (hx1.cells (w.heap.size) (2) (by first | omega | (simp <;> omega))).trans (show _ = some (.string s) by first | assumption | go_simp)))
        | (go_at_call 136; go_must ((with_reducible refine (HG.out _).mono ?_); rintro e w' ⟨rfl, rfl⟩))
        | (go_at_call 113; go_must ((with_reducible refine (HN.out _ extA).mono ?_); rintro e w3 ⟨cs3, rfl, hm3, hx3⟩)))
      go_ret
      exact ⟨rfl, extA⟩
    cases h4 : signsB s.data.toList with
    | false =>
      rw [checkR_sign H0.out h1 h3 h4]
      rw [h4] at HG
      clear h1
      go_enter Tryz.func111, Tryz.ntmps111
      go_wp2_with (first
        | (go_at_call 108; go_must ((with_reducible refine (HC.out _ extA).mono ?_); rintro e w1 ⟨rfl, hx1⟩; have hz1 := hx1.size; (try simp at hz1); have hb1_0 : w.heap.size < w1.heap.size := (by omega); have p0 := (hx1.cells (w.heap.size) (0) (by first | omega | (simp <;> omega))).trans (show _ = some (.slice a1 n1 c1) by first | assumption | go_simp); have p1 := (hx1.cells (w.heap.size) (1) (by first | omega | (simp <;> omega))).trans (show _ = some (.int .i64 c) by first | assumption | go_simp); have p2 := (hx1.cells (w.heap.size) (2) (by first | omega | (simp <;> omega))).trans (show _ = some (.string s) by first | assumption | go_simp)))
        | (go_at_call 136; go_must ((with_reducible refine (HG.out _).mono ?_); rintro e w' ⟨rfl, rfl⟩))
        | (go_at_call 113; go_must ((with_reducible refine (HN.out _ extA).mono ?_); rintro e w3 ⟨cs3, rfl, hm3, hx3⟩)))
      go_ret
      exact ⟨rfl, extA⟩
    | true =>
      rw [checkR_next H0.out h1 h3 h4]
      rw [h4] at HG
      clear h1
      generalize nextM (l, c) ((s.size : Int) - 1) = nx at *
      obtain ⟨nm, er⟩ := nx
      simp only at HN ⊢
      go_enter Tryz.func111, Tryz.ntmps111
      go_wp2_with (first
        | (go_at_call 108; go_must ((with_reducible refine (HC.out _ extA).mono ?_); rintro e w1 ⟨rfl, hx1⟩; have hz1 := hx1.size; (try simp at hz1); have hb1_0 : w.heap.size < w1.heap.size := (by omega); have p0 := (hx1.cells (w.heap.size) (0) (by first | omega | (simp <;> omega))).trans (show _ = some (.slice a1 n1 c1) by first | assumption | go_simp); have p1 := (hx1.cells (w.heap.size) (1) (by first | omega | (simp <;> omega))).trans (show _ = some (.int .i64 c) by first | assumption | go_simp); have p2 := (hx1.cells (w.heap.size) (2) (by first | omega | (simp <;> omega))).trans (show _ = some (.string s) by first | assumption | go_simp)))
        | (go_at_call 136; go_must ((with_reducible refine (HG.out _).mono ?_); rintro e w' ⟨rfl, rfl⟩))
        | (go_at_call 113; go_must ((with_reducible refine (HN.out _ extA).mono ?_); rintro e w3 ⟨cs3, rfl, hm3, hx3⟩)))
      go_ret
      exact ⟨rfl, extA⟩
  · rw [checkR_mark h0]
    have t1 : (checkM (l, c) != 0) = true := by simpa using h0
    generalize checkM (l, c) = r at *
    clear h0
    go_enter Tryz.func111, Tryz.ntmps111
    go_wp2_with (first
      | (go_at_call 108; go_must ((with_reducible refine (HC.out _ extA).mono ?_); rintro e w1 ⟨rfl, hx1⟩; have hz1 := hx1.size; (try simp at hz1); have hb1_0 : w.heap.size < w1.heap.size := (by omega); have p0 := (hx1.cells (w.heap.size) (0) (by first | omega | (simp <;> omega))).trans (show _ = some (.slice a1 n1 c1) by first | assumption | go_simp); have p1 := (hx1.cells (w.heap.size) (1) (by first | omega | (simp <;> omega))).trans (show _ = some (.int .i64 c) by first | assumption | go_simp); have p2 := (hx1.cells (w.heap.size) (2) (by first | omega | (simp <;> omega))).trans (show _ = some (.string s) by first | assumption | go_simp)))
      | (go_at_call 136; go_must ((with_reducible refine (HG.out _).mono ?_); rintro e w' ⟨rfl, rfl⟩))
      | (go_at_call 113; go_must ((with_reducible refine (HN.out _ extA).mono ?_); rintro e w3 ⟨cs3, rfl, hm3, hx3⟩)))
    go_ret
    exact ⟨rfl, extA⟩
end Go.Proofs.YtfgfdohppgoajaaGreat
/- The same runs; does an atom go on a run. -/
namespace Go.Proofs.YtfgfdohppgoajaaGreat
open Go Go.RowKit Go.BigFrame Cp

theorem run_at {F : Nat → Prop} {w : World} {a : Option Addr} {n cap : Nat} {q : List Rn} (h : RSl RRn 3 F w (.slice a n cap) q) {i : Nat} (hi : i < n) :
    ∃ b o p c s ap cp, a = some ⟨b, o, none⟩ ∧ b < w.heap.size ∧ q[i]? = some ((p, c), (s : ByteArray).data.toList) ∧ s.size ≤ 140737488351232 ∧ I64 c ∧ RSl RStp 2 F w (.slice ap p.length cp) p ∧
      w.cell? ⟨b, o + i * 3, none⟩ = some (.slice ap p.length cp) ∧ w.cell? ⟨b, o + i * 3 + 1, none⟩ = some (.int .i64 c) ∧ w.cell? ⟨b, o + i * 3 + 2, none⟩ = some (.string s) := by
  obtain ⟨b, o, x, cs, e1, e2, e3, _, e4, v, u, rfl, h1, h2, h3⟩ := h.at_ hi
  obtain ⟨ap, np, cp, rfl⟩ := h1.slice
  obtain ⟨rfl, _, _⟩ := h1.len
  obtain ⟨⟨p, c⟩, t⟩ := x
  obtain ⟨s, rfl, rfl, hs⟩ := tx_bytes h3
  exact ⟨b, o, p, c, s, ap, cp, e1, e2, e3, hs, h2, h1, by simpa using e4 0 _ rfl, by simpa [Nat.add_assoc] using e4 1 _ rfl, by simpa [Nat.add_assoc] using e4 2 _ rfl⟩
theorem rtx_s {s : ByteArray} (h : s.size ≤ 140737488351232) : RTx (.string s) s.data.toList := ⟨by congr, by simpa using h⟩
theorem bytes_eq {s t : ByteArray} (h : s.data.toList = t.data.toList) : s = t := by
  cases s; cases t
  congr
  exact Array.ext' h
set_option maxRecDepth 100000 in
set_option maxHeartbeats 4000000 in
theorem sameRun_any {F G : Nat → Prop} {w : World} {cs ds : List Value} {r : Rn} (h : RRn F w cs r) (k : RRn G w ds r) :
    Calls Tryz.prog 99 #[.agg cs.toArray, .agg ds.toArray] w fun e w' => e = .returned (.bool true) ∧ Ext w w' := by
  obtain ⟨v, x, rfl, hl, hi, hx⟩ := h
  obtain ⟨u, y, rfl, hm, hj, hy⟩ := k
  obtain ⟨⟨l, c⟩, t⟩ := r
  simp only at hl hi hx hm hj hy ⊢
  obtain ⟨s, rfl, rfl, hs⟩ := tx_bytes hx
  obtain ⟨s2, rfl, e2, hs2⟩ := tx_bytes hy
  obtain rfl := bytes_eq e2
  have HS := Lib.hid (fun (W : World) (hx : Ext w W) => same_same (rmk_of' (hl.ext gStp hx) hi) (rmk_of' (hm.ext gStp hx) hj))
  obtain ⟨a1, n1, c1, rfl⟩ := hl.slice
  obtain ⟨a2, n2, c2, rfl⟩ := hm.slice
  clear hl hi hx hm hj hy e2
  go_enter Tryz.func99, Tryz.ntmps99
  go_wp2_with (go_at_call 52; go_must ((with_reducible refine (HS.out _ extA).mono ?_); rintro e w1 ⟨rfl, hx1⟩))
  go_ret
  exact ⟨rfl, extA⟩
set_option maxRecDepth 100000 in
set_option maxHeartbeats 4000000 in
theorem sameRuns_any {F G : Nat → Prop} {w : World} {v u : Value} {l : List Rn} (h : RSl RRn 3 F w v l) (k : RSl RRn 3 G w u l) :
    Calls Tryz.prog 56 #[v, u] w fun e w' => e = .returned (.bool true) ∧ Ext w w' := by
  have HL := Lib.hid (fun (W : World) (hx : Ext w W) => h.ext gRn hx)
  have HM := Lib.hid (fun (W : World) (hx : Ext w W) => k.ext gRn hx)
  obtain ⟨a, n, c, rfl⟩ := h.slice
  obtain ⟨a2, n2, c2, rfl⟩ := k.slice
  obtain ⟨rfl, hn1, hn2⟩ := h.len
  obtain ⟨rfl, _, _⟩ := k.len
  unfold maxLen at hn2
  have q1 : l.length ≤ 9223372036854775807 := by omega
  clear h k hn1 hn2
  go_enter Tryz.func56, Tryz.ntmps56
  go_wp2
  go_loopw [5] (fun i wr => ∃ q : Nat, q ≤ l.length ∧ i = .int .i64 q ∧ Ext w wr) (fun i _ => l.length - (intOf i).toNat)
  case atStart => exact ⟨0, Nat.zero_le _, rfl, ext_refl _⟩
  case round =>
    obtain ⟨q, hq, rfl, hx⟩ := hrel
    have HX := Lib.hid hx
    clear hx
    by_cases hlt : q < l.length
    · obtain ⟨b, o, p, d, s, ap, cp, rfl, hb, e1, hs, i1, hp1, y0, y1, y2⟩ := run_at (HL.out wr HX.out) hlt
      obtain ⟨b2, o2, p2, d2, s2, ap2, cp2, rfl, hb2, e2, hs2, i2, hp2, z0, z1, z2⟩ := run_at (HM.out wr HX.out) hlt
      obtain ⟨⟨rfl, rfl⟩, rfl⟩ : (p = p2 ∧ d = d2) ∧ s = s2 := by
        rw [e1] at e2
        injection e2 with e2
        injection e2 with e3 e4
        injection e3 with e5 e6
        exact ⟨⟨e5, e6⟩, bytes_eq e4⟩
      have HSM := Lib.hid (fun (W : World) (hx : Ext wr W) => sameRun_any (rrn_of (hp1.ext gStp hx) i1 (rtx_s hs)) (rrn_of (hp2.ext gStp hx) i2 (rtx_s hs)))
      clear e1 e2 hp1 hp2 i1 i2
      go_wp2_with fail
      refine wp_name (fun W2 eW2 => ?_)
      have e0 : W2.cell? ⟨b, o + q * 3, none⟩ = some (.slice ap p.length cp) := by rw [eW2]; go_simp
      have e1 : W2.cell? ⟨b, o + q * 3 + 1, none⟩ = some (.int .i64 d) := by rw [eW2]; go_simp
      have e2 : W2.cell? ⟨b, o + q * 3 + 2, none⟩ = some (.string s) := by rw [eW2]; go_simp
      have e3 : W2.cell? ⟨b2, o2 + q * 3, none⟩ = some (.slice ap2 p.length cp2) := by rw [eW2]; go_simp
      have e4 : W2.cell? ⟨b2, o2 + q * 3 + 1, none⟩ = some (.int .i64 d) := by rw [eW2]; go_simp
      have e5 : W2.cell? ⟨b2, o2 + q * 3 + 2, none⟩ = some (.string s) := by rw [eW2]; go_simp
      have zW2_0 : b < W2.heap.size := by rw [eW2]; first | assumption | omega | (simp <;> omega)
      have zW2_1 : b2 < W2.heap.size := by rw [eW2]; first | assumption | omega | (simp <;> omega)
      have hw2 : Ext wr W2 := by rw [eW2]; exact extA
      clear eW2
      refine wp_region_later fol (by kernel_rfl) (fun hlater => ?_)
      repeat (go_big_quiet_step ((first
          | (go_at_call 99; (with_reducible exact later_of (HSM.out _ (ext_trans hw2 (Later.ext _))))))))
      refine wpQuiet_nil ?_
      rintro w3 ⟨⟨w3x, hx3⟩, rfl⟩
      clear hlater
      go_wp2_with fail
      go_roundw
      case rel => exact ⟨q + 1, by omega, by go_num, ext_trans HX.out (ext_trans hw2 hx3)⟩
      case measure => simp [intOf]; omega
    · go_wp2
      go_ret
      exact ⟨rfl, HX.out⟩
end Go.Proofs.YtfgfdohppgoajaaGreat
/- The atoms of a run, by the document. -/
namespace Go.Proofs.YtfgfdohppgoajaaGreat
open Go Go.RowKit Go.BigFrame Cp

theorem info_atom : (Tryz.prog.info? 83).map (fun i => (i.zero, i.size, i.bytes)) = some (some (.agg #[.slice none 0 0, .int .i64 0, .int .u8 0]), 3, 40) := by kernel_rfl
theorem checkR_parts {r : Rn} (h : checkR r = 0) : checkM r.1 = 0 ∧ r.2 ≠ [] ∧ r.2.length ≤ 60 ∧ signsB r.2 = true ∧ (nextM r.1 (r.2.length - 1)).2 = 0 := by
  unfold checkR at h
  by_cases h1 : checkM r.1 ≠ 0
  · rw [if_pos h1] at h; exact absurd h h1
  rw [if_neg h1] at h
  by_cases h2 : r.2 = []
  · rw [if_pos h2] at h; omega
  rw [if_neg h2] at h
  by_cases h3 : 60 < r.2.length
  · rw [if_pos h3] at h; omega
  rw [if_neg h3] at h
  by_cases h4 : signsB r.2 = false
  · rw [if_pos h4] at h; omega
  rw [if_neg h4] at h
  exact ⟨by omega, h2, by omega, by simpa using h4, h⟩
theorem atm_one {F : Nat → Prop} {W : World} {r : Nat} {v : Value} {p : List Stp} {c : Int} {s : UInt8} (h : RSl RStp 2 F W v p) (i : I64 c) (z0 : W.cell? ⟨r, 0, none⟩ = some v) (z1 : W.cell? ⟨r, 1, none⟩ = some (.int .i64 c)) (z2 : W.cell? ⟨r, 2, none⟩ = some (.int .u8 s.toNat))
    (hF : F r) (hr : r < W.heap.size) : RSl RAt 3 F W (.slice (some ⟨r, 0, none⟩) 1 1) [((p, c), s)] :=
  rsl_of_range (rangeAt3 z0 z1 z2) (chunks_one (x := ((p, c), s)) rfl ⟨_, rfl, h, i⟩) hF hr (Nat.le_refl _) (by unfold maxLen; omega)
theorem rmk_path {F : Nat → Prop} {w : World} {v : Value} {c : Int} {m : Mk} (h : RMk F w [v, .int .i64 c] m) : RSl RStp 2 F w v m.1 := by
  obtain ⟨v', e, h1, _⟩ := h
  injection e with e1 e2
  subst e1; exact h1
theorem range_map {α : Type} (f : Nat → α) (k : Nat) : (List.range (k + 1)).map f = (List.range k).map f ++ [f k] := by rw [List.range_succ, List.map_append]; rfl
theorem byte_getD {s : ByteArray} {k : Nat} (h : k < s.size) : s.data.toList.getD k 0 = s[k] := by
  rw [List.getD_eq_getElem?_getD, List.getElem?_eq_getElem (by simpa using h)]
  rfl
theorem range_len {α : Type} (f : Nat → α) (k : Nat) : ((List.range k).map f).length = k := by simp
set_option maxRecDepth 100000 in
set_option maxHeartbeats 4000000 in
theorem atomsOf_any {F : Nat → Prop} {w : World} {cs : List Value} {r : Rn} (h : RRn F w cs r) (hr : checkR r = 0) :
    Calls Tryz.prog 78 #[.agg cs.toArray] w (IsAtoms (atomsR r) w) := by
  obtain ⟨hc1, hc2, hc3, _, _⟩ := checkR_parts hr
  obtain ⟨v, u, rfl, hl, hi, hu⟩ := h
  obtain ⟨⟨l, c⟩, t⟩ := r
  simp only at hl hi hu hc1 hc2 hc3
  obtain ⟨s, rfl, rfl, hs⟩ := tx_bytes hu
  have hs60 : s.size ≤ 60 := by simpa using hc3
  have HAF := Lib.hid (fun (k : Nat) (hk : k < s.size) (W : World) (hx : Ext w W) => afterOf_any (k := (k : Int)) (rmk_of' (hl.ext gStp hx) hi) (check_len hc1) (check_ne hc1) (check_digit hc1) (check_clock hc1) ⟨by omega, by omega⟩)
  have HIC := Lib.hid (check_clock hc1)
  obtain ⟨a1, n1, c1, rfl⟩ := hl.slice
  obtain ⟨i0, hi0, hz0, hz1, hz2⟩ := info_parts info_atom
  have HJ := Lib.hid hi0
  have HZ0 := Lib.hid hz0
  have HZ1 := Lib.hid hz1
  have HZ2 := Lib.hid hz2
  obtain ⟨f, hf⟩ : ∃ f : Nat → At, f = fun (i : Nat) => (afterM (l, c) (i : Int), s.data.toList.getD i 0) := ⟨_, rfl⟩
  have hat : atomsR ((l, c), s.data.toList) = (List.range s.size).map f := by
    unfold atomsR; rw [hf]
    have : s.data.toList.length = s.size := by simp
    simp only [this]
  rw [hat]
  have HF := Lib.hid (fun (k : Nat) (hk : k < s.size) => (show f k = (afterM (l, c) (k : Int), s[k]) by rw [hf]; simp only [byte_getD hk]))
  clear hi0 hz0 hz1 hz2 hl hi hu hr hc1 hc2 hc3 hat hf
  go_enter Tryz.func78, Tryz.ntmps78
  go_wp2
  refine wp_name (fun wb ewb => ?_)
  have b0 : wb.cell? ⟨w.heap.size, 0, none⟩ = some (.slice a1 n1 c1) := by rw [ewb]; go_simp
  have b1 : wb.cell? ⟨w.heap.size, 1, none⟩ = some (.int .i64 c) := by rw [ewb]; go_simp
  have b2 : wb.cell? ⟨w.heap.size, 2, none⟩ = some (.string s) := by rw [ewb]; go_simp
  have hbb : w.heap.size < wb.heap.size := by rw [ewb]; simp
  have hwb : Ext w wb := by rw [ewb]; exact extA
  clear ewb
  have HWB := Lib.hid hwb
  go_loopw [3, 4] (fun ov iv wr => ∃ k : Nat, k ≤ s.size ∧ iv = .int .i64 k ∧ Hid (OSl RAt 3 83 wb.heap.size (fun j => wb.heap.size ≤ j) wr ov ((List.range k).map f)) ∧ Ext wb wr) (fun _ iv _ => s.size - (intOf iv).toNat)
  case atStart => exact ⟨0, Nat.zero_le _, rfl, Lib.hid osl_nil, ext_refl _⟩
  case round =>
    obtain ⟨k, hk, rfl, HO, hx⟩ := hrel
    have z0 := (hx.cells w.heap.size 0 hbb).trans b0
    have z1 := (hx.cells w.heap.size 1 hbb).trans b1
    have z2 := (hx.cells w.heap.size 2 hbb).trans b2
    have hzr := hx.size
    have hbr : w.heap.size < wr.heap.size := by omega
    have HX := Lib.hid hx
    have HXW := Lib.hid (ext_trans HWB.out hx)
    clear hx
    obtain ⟨a5, n5, c5, rfl⟩ := osl_slice HO.out
    obtain rfl : n5 = k := by have := (osl_len HO.out).1; rwa [range_len] at this
    by_cases hlt : n5 < s.size
    · have HAK := Lib.hid (HAF.out n5 hlt)
      have HFK := Lib.hid (HF.out n5 hlt)
      have HOL := Lib.hid (osl_lt HO.out)
      go_wp2_with fail
      go_region_held3 (fun W => W.cell? ⟨w.heap.size, 0, none⟩ = some (.slice a1 n1 c1) ∧ W.cell? ⟨w.heap.size, 1, none⟩ = some (.int .i64 c) ∧ W.cell? ⟨w.heap.size, 2, none⟩ = some (.string s))
        (first | go_keep | (refine ⟨?_, ?_, ?_⟩ <;> (rw [hx9.cells _ _ (by first | omega | (simp <;> omega))]; first | assumption | go_simp)) | (refine ⟨?_, ?_, ?_⟩ <;> (rw [hx2.cells _ _ (by first | omega | (simp <;> omega))]; first | assumption | go_simp)))
        (first
          | (go_at_call 122; go_must ((with_reducible refine (HAK.out _ (ext_trans HXW.out extA)).mono ?_); rintro e w2 ⟨cs2, rfl, hm2, hx2⟩; have HM2 := Lib.hid (omk_mk hm2); obtain ⟨v2, rfl, hv2, hi2⟩ := hm2; obtain ⟨a3, n3, c3, rfl⟩ := osl_slice hv2; have HI2 := Lib.hid hi2; have hz2 := hx2.size; (try simp at hz2); have hb2 : w.heap.size < w2.heap.size := (by omega); clear hv2 hi2))
          | ((refine step_appAll gAt rfl (.tmp 12) (.tmp 22) 22 rfl wb.heap.size 83 i0 _ 3 40 Tryz.underlying22 HJ.out HZ0.out HZ1.out HZ2.out rfl (by omega) (F := fun j => wb.heap.size ≤ j) (G := fun j => wr.heap.size ≤ j) (.slice a5 n5 c5) ((List.range n5).map f) rfl (osl_ext gAt HO.out extA) (.slice (some ⟨w2.heap.size, 0, none⟩) 1 1) [f n5] rfl (by rw [HFK.out]; exact atm_one (RSl.more gStp (fun j hj _ => (show wr.heap.size ≤ j by first | omega | (simp at hj; omega))) ((rmk_path HM2.out).ext gStp extA)) HI2.out (by first | assumption | go_simp) (by first | assumption | (go_simp <;> rfl)) (by first | assumption | go_simp) (by first | omega | (simp <;> omega)) (by first | omega | (simp <;> omega))) one_at (fun j hj _ => ⟨(show wb.heap.size ≤ j by omega), fun e => by have := HOL.out j e.symm; omega⟩) (by simp only [range_len, maxLen, List.length_cons, List.length_nil]; omega) (by simp only [range_len, List.length_cons, List.length_nil]; omega) (by first | omega | (simp <;> omega)) ?_); intro v9 w9 hown9 hg9 hat9; have hx9 : Ext wb w9 := ext_grow (ext_trans HX.out extA) hg9 (fun j hj => (HOL.out j hj).1)))
      all_goals
        have HN := Lib.hid (show OSl RAt 3 83 wb.heap.size (fun j => wb.heap.size ≤ j) w9 v9 ((List.range (n5 + 1)).map f) by rw [range_map]; exact hown9)
        clear hown9 hg9 hat9
        go_wp2_with fail
        go_roundw
        case rel => exact ⟨n5 + 1, by omega, by go_num, HN, hx9⟩
        case measure => simp [intOf]; omega
    · have hks : n5 = s.size := by omega
      subst hks
      have HFI := Lib.hid (osl_rsl gAt HO.out (G := fun j => w.heap.size ≤ j) (fun j hj _ => (show w.heap.size ≤ j by omega)) (fun j hj => (show w.heap.size ≤ j by omega)))
      go_wp2
      go_ret
      exact ⟨_, rfl, HFI.out, HXW.out⟩
end Go.Proofs.YtfgfdohppgoajaaGreat
/- Does an atom go on a run. -/
namespace Go.Proofs.YtfgfdohppgoajaaGreat
open Go Go.RowKit Go.BigFrame Cp

def joinsB (r : Rn) (a : At) : Bool := decide (r.2.length < 60) && (ordM (afterM r.1 r.2.length) a.1 == 0)
set_option maxRecDepth 100000 in
set_option maxHeartbeats 4000000 in
theorem joins_any {F G : Nat → Prop} {w : World} {cs ds : List Value} {r : Rn} {a : At} (h : RRn F w cs r) (k : RAt G w ds a) (hc : checkM r.1 = 0) :
    Calls Tryz.prog 93 #[.agg cs.toArray, .agg ds.toArray] w fun e w' => e = .returned (.bool (joinsB r a)) ∧ Ext w w' := by
  obtain ⟨v, u, rfl, hl, hi, hu⟩ := h
  obtain ⟨v2, rfl, hm, hj⟩ := k
  obtain ⟨⟨l, c⟩, t⟩ := r
  obtain ⟨⟨m, d⟩, x⟩ := a
  simp only at hl hi hu hm hj hc
  obtain ⟨s, rfl, rfl, hs⟩ := tx_bytes hu
  have hsl : s.data.toList.length = s.size := by simp
  have HAF := Lib.hid (fun (hk : s.size < 60) (W : World) (hx : Ext w W) => after_any (k := (s.size : Int)) (rmk_of' (hl.ext gStp hx) hi) (check_len hc) (check_ne hc) (check_digit hc) (check_clock hc) ⟨by omega, by omega⟩)
  have HM := Lib.hid (fun (W : World) (hx : Ext w W) => rmk_of' (hm.ext gStp hx) hj)
  obtain ⟨a1, n1, c1, rfl⟩ := hl.slice
  obtain ⟨a2, n2, c2, rfl⟩ := hm.slice
  clear hl hm hu hc
  by_cases h0 : s.size < 60
  · have HB := Lib.hid (show joinsB ((l, c), s.data.toList) ((m, d), x) = (ordM (afterM (l, c) (s.size : Int)) (m, d) == 0) by unfold joinsB; rw [hsl, decide_eq_true h0]; rfl)
    have HAK := Lib.hid (HAF.out h0)
    have t0 : decide ((s.size : Int) < 60) = true := decide_eq_true (by omega)
    have t1 : decide (s.size < 60) = true := decide_eq_true h0
    clear hsl HAF
    go_enter Tryz.func93, Tryz.ntmps93
    go_wp2_with fail
    go_region_held3 (fun W => W.cell? ⟨w.heap.size, 0, none⟩ = some (.slice a1 n1 c1) ∧ W.cell? ⟨w.heap.size, 1, none⟩ = some (.int .i64 c) ∧ W.cell? ⟨w.heap.size, 2, none⟩ = some (.string s) ∧ W.cell? ⟨w.heap.size + 1, 0, none⟩ = some (.slice a2 n2 c2) ∧ W.cell? ⟨w.heap.size + 1, 1, none⟩ = some (.int .i64 d))
      (first | go_keep | (refine ⟨?_, ?_, ?_, ?_, ?_⟩ <;> (rw [hx3.cells _ _ (by first | omega | (simp <;> omega))]; first | assumption | go_simp)) | (refine ⟨?_, ?_, ?_, ?_, ?_⟩ <;> (rw [hx2.cells _ _ (by first | omega | (simp <;> omega))]; first | assumption | go_simp)))
      (first
        | (go_at_call 76; go_must ((with_reducible refine (HAK.out _ extA).mono ?_); rintro e w2 ⟨cs2, rfl, hm2, hx2⟩; have HM2 := Lib.hid (omk_mk hm2); obtain ⟨v2, rfl, hv2, hi2⟩ := hm2; obtain ⟨a3, n3, c3, rfl⟩ := osl_slice hv2; have hz2 := hx2.size; (try simp at hz2); have hb2 : w.heap.size < w2.heap.size := (by omega); have hb2' : w.heap.size + 1 < w2.heap.size := (by omega); clear hv2 hi2))
        | (go_at_call 59; go_must ((with_reducible refine (order_any (gMk.ext HM2.out extA) (HM.out _ extA)).mono ?_); rintro e w3 ⟨rfl, hx3⟩; have hz3 := hx3.size; (try simp at hz3); have hb3 : w.heap.size < w3.heap.size := (by omega); have hb3' : w.heap.size + 1 < w3.heap.size := (by omega))))
    all_goals go_wp2_with fail
    all_goals go_ret
    all_goals exact ⟨rb HB.out.symm, extA⟩
  · have HB := Lib.hid (show joinsB ((l, c), s.data.toList) ((m, d), x) = false by unfold joinsB; rw [hsl, decide_eq_false h0]; rfl)
    have t0 : decide ((s.size : Int) < 60) = false := decide_eq_false (by omega)
    have t1 : decide (s.size < 60) = false := decide_eq_false h0
    clear hsl HAF
    go_enter Tryz.func93, Tryz.ntmps93
    go_wp2_with fail
    refine wp_name (fun W2 eW2 => ?_)
    have e0 : W2.cell? ⟨w.heap.size, 0, none⟩ = some (.slice a1 n1 c1) := by rw [eW2]; go_simp
    have e1 : W2.cell? ⟨w.heap.size, 1, none⟩ = some (.int .i64 c) := by rw [eW2]; go_simp
    have e2 : W2.cell? ⟨w.heap.size, 2, none⟩ = some (.string s) := by rw [eW2]; go_simp
    have e3 : W2.cell? ⟨w.heap.size + 1, 0, none⟩ = some (.slice a2 n2 c2) := by rw [eW2]; go_simp
    have e4 : W2.cell? ⟨w.heap.size + 1, 1, none⟩ = some (.int .i64 d) := by rw [eW2]; go_simp
    have zW2_0 : w.heap.size < W2.heap.size := by rw [eW2]; first | assumption | omega | (simp <;> omega)
    have zW2_1 : w.heap.size + 1 < W2.heap.size := by rw [eW2]; first | assumption | omega | (simp <;> omega)
    have hw2 : Ext w W2 := by rw [eW2]; exact extA
    clear eW2
    refine wp_region_later fol (by kernel_rfl) (fun hlater => ?_)
    repeat (go_big_quiet_step ((fail)))
    refine wpQuiet_nil ?_
    rintro w3 ⟨⟨w3x, hx3⟩, rfl⟩
    clear hlater
    go_wp2_with fail
    go_ret
    exact ⟨rb HB.out.symm, ext_trans hw2 hx3⟩
end Go.Proofs.YtfgfdohppgoajaaGreat
/- Runs of atoms, by the program. -/
namespace Go.Proofs.YtfgfdohppgoajaaGreat
open Go Go.RowKit Go.BigFrame Cp

theorem info_run : (Tryz.prog.info? 61).map (fun i => (i.zero, i.size, i.bytes)) = some (some (.agg #[.slice none 0 0, .int .i64 0, .string ⟨#[]⟩]), 3, 48) := by kernel_rfl
theorem one_rn : ∀ F w cs (y : Rn), RRn F w cs y → ∀ u ∈ cs, u.oneCell' = true := by
  rintro F w cs y ⟨v, s, rfl, h, _, hs⟩ u hu
  obtain ⟨a, n, c, rfl⟩ := h.slice
  obtain ⟨t, rfl, _, _⟩ := tx_bytes hs
  simp at hu
  rcases hu with rfl | rfl | rfl <;> rfl
theorem orun_at {e base : Nat} {F : Nat → Prop} {w : World} {a : Option Addr} {n c : Nat} {q : List Rn} (h : OSl RRn 3 e base F w (.slice a n c) q) {i : Nat} (hi : i < q.length) :
    ∃ g p d s ap cp, a = some ⟨g, 0, none⟩ ∧ base ≤ g ∧ g < w.heap.size ∧ q[i]? = some ((p, d), (s : ByteArray).data.toList) ∧ s.size ≤ 140737488351232 ∧ I64 d ∧ RSl RStp 2 F w (.slice ap p.length cp) p ∧
      w.cell? ⟨g, i * 3, none⟩ = some (.slice ap p.length cp) ∧ w.cell? ⟨g, i * 3 + 1, none⟩ = some (.int .i64 d) ∧ w.cell? ⟨g, i * 3 + 2, none⟩ = some (.string s) ∧ w.frozen? ⟨g, i * 3 + 2, none⟩ = false := by
  obtain ⟨g, x, cs, _, ha, hb, hs, hx, _, hr, ⟨v, u, rfl, h1, h2, h3⟩, hf⟩ := osl_at h hi
  obtain ⟨ap, np, cp, rfl⟩ := h1.slice
  obtain ⟨rfl, _, _⟩ := h1.len
  obtain ⟨⟨p, d⟩, t⟩ := x
  obtain ⟨s, rfl, rfl, h4⟩ := tx_bytes h3
  exact ⟨g, p, d, s, ap, cp, ha, hb, hs, hx, h4, h2, h1.more gStp (fun k hk _ => hk.1), by simpa using hr 0 _ rfl, by simpa [Nat.add_assoc] using hr 1 _ rfl, by simpa [Nat.add_assoc] using hr 2 _ rfl, hf _⟩
theorem runsA_step {l : List At} {k : Nat} {a : At} (h : l[k]? = some a) : runsA (l.take (k + 1)) = runStep (runsA (l.take k)) a := by
  obtain ⟨h1, h2⟩ := List.getElem?_eq_some_iff.1 h
  unfold runsA
  rw [List.take_succ_eq_append_getElem h1, h2, List.foldl_append]; rfl
theorem runStep_nil (a : At) : runStep [] a = [(a.1, [a.2])] := rfl
theorem runStep_join {q : List Rn} {r : Rn} {a : At} (h : q[q.length - 1]? = some r) (hb : joinsB r a = true) : runStep q a = q.set (q.length - 1) (r.1, r.2 ++ [a.2]) := by
  have hl : q.getLast? = some r := by rw [List.getLast?_eq_getElem?]; exact h
  unfold joinsB at hb
  rw [Bool.and_eq_true, decide_eq_true_eq, beq_iff_eq] at hb
  unfold runStep
  rw [hl]
  simp only
  rw [if_pos hb]
  have hne : q ≠ [] := by rintro rfl; simp at h
  obtain ⟨ys, y, rfl⟩ := snoc_of hne
  simp
theorem runStep_new {q : List Rn} {r : Rn} {a : At} (h : q[q.length - 1]? = some r) (hb : joinsB r a = false) : runStep q a = q ++ [(a.1, [a.2])] := by
  have hl : q.getLast? = some r := by rw [List.getLast?_eq_getElem?]; exact h
  unfold runStep
  rw [hl]
  simp only
  rw [if_neg]
  rintro ⟨h1, h2⟩
  unfold joinsB at hb
  rw [decide_eq_true h1, h2] at hb
  simp at hb
/-- runs as they are made -/
def RunsOk (q : List Rn) : Prop := ∀ r ∈ q, checkM r.1 = 0 ∧ r.2.length ≤ 60 ∧ r.2 ≠ []
theorem runsOk_step {q : List Rn} {a : At} (h : RunsOk q) (ha : checkM a.1 = 0) : RunsOk (runStep q a) := by
  have hnew : RunsOk (q ++ [(a.1, [a.2])]) := by
    intro r hr
    rcases List.mem_append.1 hr with hr | hr
    · exact h r hr
    · have : r = (a.1, [a.2]) := by simpa using hr
      subst this; exact ⟨ha, by simp, by simp⟩
  by_cases hq : q = []
  · subst hq; exact hnew
  · have hlt : q.length - 1 < q.length := by have := List.length_pos_iff.2 hq; omega
    have hr := List.getElem?_eq_getElem hlt
    cases hb : joinsB q[q.length - 1] a with
    | true =>
      rw [runStep_join hr hb]
      intro r hr2
      rcases List.mem_or_eq_of_mem_set hr2 with h2 | rfl
      · exact h r h2
      · have h3 := h _ (List.getElem_mem hlt)
        unfold joinsB at hb
        rw [Bool.and_eq_true, decide_eq_true_eq] at hb
        exact ⟨h3.1, by simp; omega, by simp⟩
    | false => rw [runStep_new hr hb]; exact hnew
theorem runStep_len (q : List Rn) (a : At) : (runStep q a).length ≤ q.length + 1 := by
  unfold runStep
  split
  · split
    · first | (simp; omega) | simp
    · simp
  · simp
theorem runsA_len : ∀ (l : List At) (k : Nat), (runsA (l.take k)).length ≤ k
  | l, 0 => by simp [runsA]
  | l, k + 1 => by
    by_cases h : k < l.length
    · rw [runsA_step (List.getElem?_eq_getElem h)]
      have h1 := runsA_len l k
      have h2 := runStep_len (runsA (l.take k)) l[k]
      omega
    · have h1 := runsA_len l k
      rw [List.take_of_length_le (by omega)] at h1 ⊢
      omega
theorem encode_sign {s : UInt8} (h : s.toNat ≤ 126) : Utf8.encode ((s.toNat : Nat) : Int) = ⟨#[s]⟩ := by
  have h1 : Utf8.valid ((s.toNat : Nat) : Int) = true := by unfold Utf8.valid; simp; omega
  unfold Utf8.encode
  simp only [h1, if_true, Int.toNat_natCast]
  rw [if_pos (by omega)]
  simp
theorem put_text {e base : Nat} {F : Nat → Prop} {w : World} {g n c : Nat} {q : List Rn} (h : OSl RRn 3 e base F w (.slice (some ⟨g, 0, none⟩) n c) q) {i : Nat} (hi : i < q.length) {m : Mk} {sx eb : ByteArray} {s : UInt8} (he : q[i]? = some (m, sx.data.toList)) (heb : eb = ⟨#[s]⟩) (hs : sx.size ≤ 60) :
    OSl RRn 3 e base F (w.setCell ⟨g, i * 3 + 2, none⟩ (.string (sx ++ eb))) (.slice (some ⟨g, 0, none⟩) n c) (q.set i (m, sx.data.toList ++ [s])) := by
  refine osl_put gRn h hi (by omega) (fun G W cs y hy hr => ?_)
  rw [he] at hy
  have : (m, sx.data.toList) = y := by simpa using hy
  subst this
  obtain ⟨v, u, rfl, h1, h2, _⟩ := hr
  refine ⟨v, .string (sx ++ eb), rfl, h1, h2, ?_⟩
  subst heb
  have h9 : (⟨#[s]⟩ : ByteArray).size = 1 := rfl
  have h3 := rtx_s (s := sx ++ ⟨#[s]⟩) (by rw [ByteArray.size_append, h9]; omega)
  simpa using h3
theorem wrap_succ {n : Nat} (h : n ≤ 300) : wrap64 ((n : Int) + 1) = (n : Int) + 1 := IntWalk.wrap64_in _ (by omega)
theorem len63 {n : Nat} (h : n ≤ 300) : n + 1 ≤ maxLen := Nat.le_trans (Nat.succ_le_succ h) (by unfold maxLen; decide)
theorem lenby {n : Nat} (h : n ≤ 300) : (n + 1) * 48 ≤ 140737488355328 := by omega
theorem tx_nil {a b : Mk} {t : Tx} (h : (a, ([] : Tx)) = (b, t)) : t = [] := (congrArg Prod.snd h).symm
theorem app_eq0 {p px : List Stp} {d dx : Int} {t : Tx} {s : UInt8} (h : ((p, d), ([] : Tx)) = ((px, dx), t)) : ([((p, d), ([] : Tx))] : List Rn).set 0 ((px, dx), t ++ [s]) = [((p, d), [s])] := by
  injection h with h1 h2
  rw [h1, ← h2]; rfl
theorem app_eq {p px : List Stp} {d dx : Int} {t : Tx} {s : UInt8} {q : List Rn} (h : ((p, d), ([] : Tx)) = ((px, dx), t)) : (q ++ [((p, d), ([] : Tx))]).set q.length ((px, dx), t ++ [s]) = q ++ [((p, d), [s])] := by
  injection h with h1 h2
  rw [h1, ← h2]; simp
theorem set_last {q : List Rn} {y x : Rn} : (q ++ [y]).set q.length x = q ++ [x] := by simp
def IsRunsR (l : List Rn) (w : World) (e : Ending) (w' : World) : Prop := ∃ v, e = .returned v ∧ RSl RRn 3 (fun k => w.heap.size ≤ k) w' v l ∧ Ext w w'
theorem osl_of_eq {e base : Nat} {F : Nat → Prop} {w : World} {v : Value} {q q' : List Rn} (h : OSl RRn 3 e base F w v q) (hq : q = q') : OSl RRn 3 e base F w v q' := hq ▸ h

end Go.Proofs.YtfgfdohppgoajaaGreat
