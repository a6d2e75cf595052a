/- The mark so many behind one, by the reference. -/
import Derived.Test.YtiladkinndgeaaaQ6465d16c97
import Derived.IntWalk
import Derived.Test.YtiladkinndgeaaaQ9649f021f5
import Derived.Deep.RegionHeld3
import Derived.Deep.RegionLaw
set_option linter.unusedVariables false
set_option linter.unusedSimpArgs false
namespace Go.Proofs.Ytiladkinndgeaaa
open Go Go.RowKit Cp

set_option maxRecDepth 100000 in
set_option maxHeartbeats 2000000 in
theorem afterOf_any {F : Nat → Prop} {w : World} {cs : List Value} {m : Mk} {k : Int} (h : RMk F w cs m) (hsz : m.1.length ≤ 8000000000000) (hne : m.1 ≠ [])
    (hd : 0 ≤ lastDigit m.1 ∧ lastDigit m.1 ≤ 1000) (hc : 0 ≤ m.2 ∧ m.2 ≤ 20000) (hk : 0 ≤ k ∧ k ≤ 1000) :
    Calls Try.prog 69 #[.agg cs.toArray, .int .i64 k] w (IsMark (afterM m k) w) := by
  obtain ⟨v, rfl, hl, hi64⟩ := h
  obtain ⟨l, c⟩ := m
  simp only at hl hsz hne hd hc ⊢
  obtain ⟨a1, n1, c1, rfl⟩ := hl.slice
  obtain ⟨rfl, _, _⟩ := hl.len
  have HL := Lib.hid (fun (W : World) (hx : Ext w W) => (hl.more gStp (G := fun k => k < w.heap.size) (fun _ _ hk => hk)).ext gStp hx)
  clear hl hi64
  have hlt : l.length - 1 < l.length := by
    have := List.length_pos_iff.2 hne
    omega
  obtain ⟨c0, c2⟩ := hc
  obtain ⟨k0, k2⟩ := hk
  have HD := Lib.hid hd
  clear hd
  obtain ⟨i0, hi, hz0, hz1, hz2⟩ := info_parts info_step
  have HI := Lib.hid hi
  have HZ0 := Lib.hid hz0
  have HZ1 := Lib.hid hz1
  have HZ2 := Lib.hid hz2
  clear hi hz0 hz1 hz2
  go_enter Try.func69, Try.ntmps69
  have hwr : IntKind.i64.wrap (c + k) = c + k := IntWalk.i64_in _ (by omega)
  go_wp2_with fail
  go_region_held3 (fun W => W.cell? ⟨w.heap.size, 0, none⟩ = some (.slice a1 l.length c1) ∧ W.cell? ⟨w.heap.size, 1, none⟩ = some (.int .i64 c))
    (first | go_keep | ((try dsimp only); (repeat' apply And.intro); all_goals first | go_keep | (go_simp; done) | (rw [hxg.cells _ _ (by simp <;> omega)]; go_simp)))
    (first
      | ((refine step_appAll gStp rfl (.tmp 6) (.tmp 8) 54 rfl (w.heap.size + 2) 96 i0 _ 2 16 Try.underlying54 HI.out HZ0.out HZ1.out HZ2.out rfl (by omega) (F := fun k => k < w.heap.size) (G := fun k => k < w.heap.size) (.slice (some ⟨w.heap.size + 1 + 1, 0, none⟩) 0 0) [] rfl ?_ _ l rfl (HL.out _ (by repeat (first | exact ext_refl _ | refine ext_drew ?_ | refine ext_drewN ?_ _ | refine ext_alloc ?_ _ | refine ext_set ?_ (by simp <;> omega) _))) one_stp (fun k hk _ => ⟨hk, ne_own (by first | omega | (simp <;> omega) | (simp only [maxLen, List.length_nil] <;> omega))⟩) (by first | omega | (simp <;> omega) | (simp only [maxLen, List.length_nil] <;> omega)) (by first | omega | (simp <;> omega) | (simp only [maxLen, List.length_nil] <;> omega)) (by first | omega | (simp <;> omega) | (simp only [maxLen, List.length_nil] <;> omega)) ?_; (· first | exact osl_ext gStp (osl_newAt (by first | omega | (simp <;> omega) | (simp only [maxLen, List.length_nil] <;> omega)) (by first | omega | (simp <;> omega) | (simp only [maxLen, List.length_nil] <;> omega))) (ext_drew (ext_refl _)) | exact osl_ext gStp (osl_newAt (by first | omega | (simp <;> omega) | (simp only [maxLen, List.length_nil] <;> omega)) (by first | omega | (simp <;> omega) | (simp only [maxLen, List.length_nil] <;> omega))) (ext_drew (ext_alloc (ext_refl _) _))); intro v1 w1 hown1 hg1 hat1; have hxg : Ext ((w.alloc (.cells #[.slice a1 l.length c1, .int .i64 c] 56)).alloc (.cells #[.slice none 0 0, .int .i64 0] 56)) w1 := ext_grow (by repeat (first | exact ext_refl _ | refine ext_drew ?_ | refine ext_drewN ?_ _ | refine ext_alloc ?_ _ | refine ext_set ?_ (by simp <;> omega) _)) hg1 (fun k hk => by have := own_eq hk; simp <;> omega); have hs1 : w.heap.size + 1 < w1.heap.size := (by have := hxg.size; simp at this; omega); have hne1 : ¬ w1.heap.size = w.heap.size := (by omega); have hne2 : ¬ w.heap.size = w1.heap.size := (by omega); have zb0 := (hxg.cells w.heap.size 0 (by simp <;> omega)).trans (show _ = some (.slice a1 l.length c1) by go_simp); have zb1 := (hxg.cells w.heap.size 1 (by simp <;> omega)).trans (show _ = some (.int .i64 c) by go_simp); have hq1 := grown_cells hg1; have hq2 := grown_frz hg1; simp only [List.nil_append] at hown1; obtain ⟨a3, n3, c3, rfl⟩ := osl_slice hown1; obtain ⟨g3, s3, cs2, rfl, rfl, hg3, hg3', e3, _, hr3, hs3, hf3⟩ := osl_at hown1 hlt; obtain ⟨x3, y3⟩ := s3; obtain ⟨rfl, ix, iy⟩ := hs3; have z6 := hr3 0 _ rfl; have z7 := hr3 1 _ rfl; have z8 := hf3 ((l.length - 1) * 2); simp only [Nat.add_zero] at z6 z7; have hd1 : 0 ≤ x3 := (lastDigit_at e3) ▸ HD.out.1; have hd2 : x3 ≤ 1000 := (lastDigit_at e3) ▸ HD.out.2; have HV1 := Lib.hid hown1; have HE3 := Lib.hid e3; have HG1 := Lib.hid hg1; have y0 := (hxg.cells (w.heap.size + 1) 0 (by simp <;> omega)).trans (show _ = some (.slice none 0 0) by go_simp); have y1 := (hxg.cells (w.heap.size + 1) 1 (by simp <;> omega)).trans (show _ = some (.int .i64 0) by go_simp); have y2 := (hxg.frz (w.heap.size + 1) 0 (by simp <;> omega)).trans (show _ = false by go_simp); have y3f := (hxg.frz (w.heap.size + 1) 1 (by simp <;> omega)).trans (show _ = false by go_simp); have hn1 : ¬ g3 = w.heap.size + 1 := (by omega); have hn2 : ¬ w.heap.size + 1 = g3 := (by omega); have hn3 : ¬ g3 = w1.heap.size := (by omega); simp [Value.ownBlock] at hat1; (try have hn5 : ¬ g3 = w.heap.size + 1 + 1 + 1 := (by omega)); (try have hn6 : ¬ w.heap.size + 1 + 1 + 1 = g3 := (by omega)); clear hown1 e3 hr3 hf3 hg1 hat1))
      | ((refine step_appAll gStp rfl (.tmp 6) (.tmp 8) 54 rfl (w.heap.size + 2) 96 i0 _ 2 16 Try.underlying54 HI.out HZ0.out HZ1.out HZ2.out rfl (by omega) (F := fun k => k < w.heap.size) (G := fun k => k < w.heap.size) (.slice (some ⟨w.heap.size + 1 + 1 + 1, 0, none⟩) 0 0) [] rfl ?_ _ l rfl (HL.out _ (by repeat (first | exact ext_refl _ | refine ext_drew ?_ | refine ext_drewN ?_ _ | refine ext_alloc ?_ _ | refine ext_set ?_ (by simp <;> omega) _))) one_stp (fun k hk _ => ⟨hk, ne_own (by first | omega | (simp <;> omega) | (simp only [maxLen, List.length_nil] <;> omega))⟩) (by first | omega | (simp <;> omega) | (simp only [maxLen, List.length_nil] <;> omega)) (by first | omega | (simp <;> omega) | (simp only [maxLen, List.length_nil] <;> omega)) (by first | omega | (simp <;> omega) | (simp only [maxLen, List.length_nil] <;> omega)) ?_; (· first | exact osl_ext gStp (osl_newAt (by first | omega | (simp <;> omega) | (simp only [maxLen, List.length_nil] <;> omega)) (by first | omega | (simp <;> omega) | (simp only [maxLen, List.length_nil] <;> omega))) (ext_drew (ext_refl _))); intro v1 w1 hown1 hg1 hat1; have hxg : Ext ((w.alloc (.cells #[.slice a1 l.length c1, .int .i64 c] 56)).alloc (.cells #[.slice none 0 0, .int .i64 0] 56)) w1 := ext_grow (by repeat (first | exact ext_refl _ | refine ext_drew ?_ | refine ext_drewN ?_ _ | refine ext_alloc ?_ _ | refine ext_set ?_ (by simp <;> omega) _)) hg1 (fun k hk => by have := own_eq hk; simp <;> omega); have hs1 : w.heap.size + 1 < w1.heap.size := (by have := hxg.size; simp at this; omega); have hne1 : ¬ w1.heap.size = w.heap.size := (by omega); have hne2 : ¬ w.heap.size = w1.heap.size := (by omega); have zb0 := (hxg.cells w.heap.size 0 (by simp <;> omega)).trans (show _ = some (.slice a1 l.length c1) by go_simp); have zb1 := (hxg.cells w.heap.size 1 (by simp <;> omega)).trans (show _ = some (.int .i64 c) by go_simp); have hq1 := grown_cells hg1; have hq2 := grown_frz hg1; simp only [List.nil_append] at hown1; obtain ⟨a3, n3, c3, rfl⟩ := osl_slice hown1; obtain ⟨g3, s3, cs2, rfl, rfl, hg3, hg3', e3, _, hr3, hs3, hf3⟩ := osl_at hown1 hlt; obtain ⟨x3, y3⟩ := s3; obtain ⟨rfl, ix, iy⟩ := hs3; have z6 := hr3 0 _ rfl; have z7 := hr3 1 _ rfl; have z8 := hf3 ((l.length - 1) * 2); simp only [Nat.add_zero] at z6 z7; have hd1 : 0 ≤ x3 := (lastDigit_at e3) ▸ HD.out.1; have hd2 : x3 ≤ 1000 := (lastDigit_at e3) ▸ HD.out.2; have HV1 := Lib.hid hown1; have HE3 := Lib.hid e3; have HG1 := Lib.hid hg1; have y0 := (hxg.cells (w.heap.size + 1) 0 (by simp <;> omega)).trans (show _ = some (.slice none 0 0) by go_simp); have y1 := (hxg.cells (w.heap.size + 1) 1 (by simp <;> omega)).trans (show _ = some (.int .i64 0) by go_simp); have y2 := (hxg.frz (w.heap.size + 1) 0 (by simp <;> omega)).trans (show _ = false by go_simp); have y3f := (hxg.frz (w.heap.size + 1) 1 (by simp <;> omega)).trans (show _ = false by go_simp); have hn1 : ¬ g3 = w.heap.size + 1 := (by omega); have hn2 : ¬ w.heap.size + 1 = g3 := (by omega); have hn3 : ¬ g3 = w1.heap.size := (by omega); simp [Value.ownBlock] at hat1; (try have hn5 : ¬ g3 = w.heap.size + 1 + 1 := (by omega)); (try have hn6 : ¬ w.heap.size + 1 + 1 = g3 := (by omega)); clear hown1 e3 hr3 hf3 hg1 hat1)))
  all_goals go_wp2
  all_goals refine bodyPost_end (v := .agg #[.slice (some ⟨g3, 0, none⟩) l.length c3, .int .i64 (c + k)]) (by simp [results, Try.results69, go_sem, y0, y1, hs1, hn1]) rfl ⟨[.slice (some ⟨g3, 0, none⟩) l.length c3, .int .i64 (c + k)], rfl, ⟨_, rfl, ?_, ?_⟩, ?_⟩
  all_goals clear hwr
  all_goals first
    | (show OSl _ _ _ _ _ _ _ (addLast l k); rw [addLast_set HE3.out]; repeat (first | (with_reducible refine osl_lalloc lf_stp ?_ _) | ((with_reducible refine osl_lset lf_stp ?_ ?_ _); · first | assumption | omega | (simp <;> omega)) | ((with_reducible refine osl_put0 gStp ?_ hlt (by omega) (stp_put (x' := x3 + k) HE3.out (i64_small (by omega) (by omega))))) | (with_reducible exact osl_any leaf_stp (osl_base (by omega) HV1.out))))
    | exact i64_small (by simp only [afterM]; omega) (by simp only [afterM]; omega)
    | (repeat (first | (with_reducible exact ext_refl _) | (with_reducible refine ext_drew ?_) | (with_reducible refine ext_alloc ?_ _) | (with_reducible refine ext_set ?_ (by first | omega | (simp <;> omega)) _) | (with_reducible refine ext_call ?_ hxg)))
end Go.Proofs.Ytiladkinndgeaaa
/- Next and NextOf: the mark so many behind one, with errors. -/
namespace Go.Proofs.Ytiladkinndgeaaa
open Go Go.RowKit Cp

/-- a mark and an errno -/
def IsMarkE (m : Mk) (er : Int) (w : World) (e : Ending) (w' : World) : Prop := ∃ cs, e = .returned (.tuple #[.agg cs.toArray, .int .i64 er]) ∧ RMk (fun k => w.heap.size ≤ k) w' cs m ∧ Ext w w'
theorem check_len {m : Mk} (h : checkM m = 0) : m.1.length ≤ 8000000000000 := by have := (checkM_ok.1 h).1; omega
theorem check_ne {m : Mk} (h : checkM m = 0) : m.1 ≠ [] := (checkM_ok.1 h).2.1
theorem check_clock {m : Mk} (h : checkM m = 0) : 0 ≤ m.2 ∧ m.2 ≤ 20000 := by have := (checkM_ok.1 h).2.2.2.2; omega
theorem check_digit {m : Mk} (h : checkM m = 0) : 0 ≤ lastDigit m.1 ∧ lastDigit m.1 ≤ 1000 := by
  obtain ⟨_, h2, h3, _⟩ := checkM_ok.1 h
  obtain ⟨q, s, e⟩ := snoc_of h2
  rw [e] at h3 ⊢
  rw [any_snoc_badS, Bool.or_eq_false_iff] at h3
  rw [lastDigit_snoc]
  have := badS_ok.1 h3.2
  omega
theorem nextM_rng {m : Mk} {k : Int} (h0 : checkM m = 0) (h : k < 0 ∨ 60 < k) : (nextM m k).2 = 3 := by unfold nextM; rw [if_neg (by omega), if_pos h]
theorem nextM_bad {m : Mk} {k : Int} (h0 : checkM m = 0) (h1 : 0 ≤ k) (h2 : k ≤ 60) (h3 : ¬ checkM (afterM m k) = 0) : (nextM m k).2 = 3 := by unfold nextM; rw [if_neg (by omega), if_neg (by omega), if_pos h3]
theorem nextM_chk {m : Mk} {k : Int} (h0 : ¬ checkM m = 0) : (nextM m k).2 = checkM m := by unfold nextM; rw [if_pos h0]
theorem RMk_fin {F G : Nat → Prop} {w w' : World} {cs : List Value} {m : Mk} (h : RMk F w cs m) (hk : Keeps F w w') (hg : ∀ k, F k → G k) : RMk G w' cs m := gMk.more (fun k hk _ => hg k hk) (gMk.keep hk h)

set_option maxRecDepth 100000 in
set_option maxHeartbeats 1600000 in
theorem next_any {F : Nat → Prop} {w : World} {cs : List Value} {m : Mk} {k : Int} (h : RMk F w cs m) :
    Calls Try.prog 63 #[.agg cs.toArray, .int .i64 k] w (IsMarkE (nextM m k).1 (nextM m k).2 w) := by
  have HC := Lib.hid (fun (W : World) (hx : Ext w W) => check_any (gMk.ext h hx))
  have ha := fun (h0 : checkM m = 0) (h1 : 0 ≤ k) (h2 : k ≤ 60) (W : World) (hx : Ext w W) => after_any (k := k) (gMk.ext h hx) (check_len h0) (check_ne h0) (check_digit h0) (check_clock h0) ⟨h1, by omega⟩
  obtain ⟨v, rfl, hl, hi64⟩ := h
  obtain ⟨l, c⟩ := m
  simp only at hl ha ⊢
  obtain ⟨a1, n1, c1, rfl⟩ := hl.slice
  clear hl hi64
  by_cases h0 : checkM (l, c) = 0
  · by_cases h1 : k < 0
    · have t0 : (checkM (l, c) != 0) = false := (by rw [h0]; rfl)
      clear ha
      have HE := Lib.hid (show (nextM (l, c) k).2 = 3 from nextM_rng h0 (.inl h1))
      have HV := Lib.hid (show (nextM (l, c) k).1 = ([], 0) from nextM_err (by rw [nextM_rng h0 (.inl h1)]; decide))
      clear h0
      go_enter Try.func63, Try.ntmps63
      go_wp2_with (first
        | (go_at_call 62; ((with_reducible refine (HC.out _ (by repeat (first | (with_reducible exact ext_refl _) | (with_reducible refine ext_drew ?_) | (with_reducible refine ext_drewN ?_ _) | (with_reducible refine ext_alloc ?_ _) | (with_reducible refine ext_set ?_ (by first | omega | (simp <;> omega)) _)))).mono ?_); rintro e w1 ⟨rfl, hx1⟩; have m0 := (hx1.cells (w.heap.size) 0 (by simp <;> omega)).trans (show _ = some (.slice a1 n1 c1) by go_simp); have m1 := (hx1.cells (w.heap.size) 1 (by simp <;> omega)).trans (show _ = some (.int .i64 c) by go_simp); have r0 := (hx1.cells (w.heap.size + 1) 0 (by simp <;> omega)).trans (show _ = some (.slice none 0 0) by go_simp); have rf0 := (hx1.frz (w.heap.size + 1) 0 (by simp <;> omega)).trans (show _ = false by go_simp); have r1 := (hx1.cells (w.heap.size + 1) 1 (by simp <;> omega)).trans (show _ = some (.int .i64 0) by go_simp); have rf1 := (hx1.frz (w.heap.size + 1) 1 (by simp <;> omega)).trans (show _ = false by go_simp); have HX1 := Lib.hid hx1; have hs1 := hx1.size; simp at hs1; clear hx1))
        | (go_at_call 74; go_must ((with_reducible refine (HA.out _ (by repeat (first | (with_reducible exact ext_refl _) | (with_reducible refine ext_drew ?_) | (with_reducible refine ext_drewN ?_ _) | (with_reducible refine ext_alloc ?_ _) | (with_reducible refine ext_set ?_ (by first | omega | (simp <;> omega)) _) | (with_reducible refine ext_call ?_ HX1.out)))).mono ?_); rintro e w2 ⟨cs2, rfl, hm2, hx2⟩; have HM2 := Lib.hid (omk_mk hm2); obtain ⟨v2, rfl, hv2, _⟩ := hm2; obtain ⟨a3, n3, c3, rfl⟩ := osl_slice hv2; have hx3 := ext_call HX1.out hx2; have q0 := (hx3.cells (w.heap.size + 1) 0 (by simp <;> omega)).trans (show _ = some (.slice none 0 0) by go_simp); have qf0 := (hx3.frz (w.heap.size + 1) 0 (by simp <;> omega)).trans (show _ = false by go_simp); have q1 := (hx3.cells (w.heap.size + 1) 1 (by simp <;> omega)).trans (show _ = some (.int .i64 0) by go_simp); have qf1 := (hx3.frz (w.heap.size + 1) 1 (by simp <;> omega)).trans (show _ = false by go_simp); have HX3 := Lib.hid hx3; have hs2 := hx2.size; (try simp at hs2); clear hx2 hx3 hv2 m0 m1 r0 rf0 r1 rf1))
        | (go_at_call 62; go_must ((with_reducible refine (check_any (gMk.ext HM2.out (ext_alloc (ext_refl _) _))).mono ?_); rintro e w3 ⟨rfl, hx4⟩; have b0 := (hx4.cells w2.heap.size 0 (by simp <;> omega)).trans (show _ = some (.slice a3 n3 c3) by go_simp); have b1 := (hx4.cells w2.heap.size 1 (by simp <;> omega)).trans (show _ = some (.int .i64 (c + k)) by go_simp); have hx5 := ext_call (ext_call HX3.out (ext_alloc (ext_refl _) _)) hx4; clear q0 qf0 q1 qf1; have q0 := (hx5.cells (w.heap.size + 1) 0 (by simp <;> omega)).trans (show _ = some (.slice none 0 0) by go_simp); have qf0 := (hx5.frz (w.heap.size + 1) 0 (by simp <;> omega)).trans (show _ = false by go_simp); have q1 := (hx5.cells (w.heap.size + 1) 1 (by simp <;> omega)).trans (show _ = some (.int .i64 0) by go_simp); have qf1 := (hx5.frz (w.heap.size + 1) 1 (by simp <;> omega)).trans (show _ = false by go_simp); have HX5 := Lib.hid hx5; have HX4 := Lib.hid hx4; have hs3 := hx4.size; (try simp at hs3); clear hx4 hx5)))
      all_goals refine bodyPost_ret (v := .tuple #[.agg #[.slice none 0 0, .int .i64 0], .int .i64 3]) (by simp [results, Try.results63, go_sem, r0, r1, rf0, rf1, hs1]) rfl ⟨[.slice none 0 0, .int .i64 0], by rw [HE.out], by rw [HV.out]; exact ⟨_, rfl, RSl.nil_ (Nat.zero_le _), i64_small (by simp) (by simp)⟩, (by repeat (first | (with_reducible exact ext_refl _) | (with_reducible refine ext_drew ?_) | (with_reducible refine ext_drewN ?_ _) | (with_reducible refine ext_alloc ?_ _) | (with_reducible refine ext_set ?_ (by first | omega | (simp <;> omega)) _) | (with_reducible refine ext_call ?_ HX1.out)))⟩
    · by_cases h2 : 60 < k
      · have t0 : (checkM (l, c) != 0) = false := (by rw [h0]; rfl)
        clear ha
        have HE := Lib.hid (show (nextM (l, c) k).2 = 3 from nextM_rng h0 (.inr h2))
        have HV := Lib.hid (show (nextM (l, c) k).1 = ([], 0) from nextM_err (by rw [nextM_rng h0 (.inr h2)]; decide))
        clear h0
        go_enter Try.func63, Try.ntmps63
        go_wp2_with (first
        | (go_at_call 62; ((with_reducible refine (HC.out _ (by repeat (first | (with_reducible exact ext_refl _) | (with_reducible refine ext_drew ?_) | (with_reducible refine ext_drewN ?_ _) | (with_reducible refine ext_alloc ?_ _) | (with_reducible refine ext_set ?_ (by first | omega | (simp <;> omega)) _)))).mono ?_); rintro e w1 ⟨rfl, hx1⟩; have m0 := (hx1.cells (w.heap.size) 0 (by simp <;> omega)).trans (show _ = some (.slice a1 n1 c1) by go_simp); have m1 := (hx1.cells (w.heap.size) 1 (by simp <;> omega)).trans (show _ = some (.int .i64 c) by go_simp); have r0 := (hx1.cells (w.heap.size + 1) 0 (by simp <;> omega)).trans (show _ = some (.slice none 0 0) by go_simp); have rf0 := (hx1.frz (w.heap.size + 1) 0 (by simp <;> omega)).trans (show _ = false by go_simp); have r1 := (hx1.cells (w.heap.size + 1) 1 (by simp <;> omega)).trans (show _ = some (.int .i64 0) by go_simp); have rf1 := (hx1.frz (w.heap.size + 1) 1 (by simp <;> omega)).trans (show _ = false by go_simp); have HX1 := Lib.hid hx1; have hs1 := hx1.size; simp at hs1; clear hx1))
        | (go_at_call 74; go_must ((with_reducible refine (HA.out _ (by repeat (first | (with_reducible exact ext_refl _) | (with_reducible refine ext_drew ?_) | (with_reducible refine ext_drewN ?_ _) | (with_reducible refine ext_alloc ?_ _) | (with_reducible refine ext_set ?_ (by first | omega | (simp <;> omega)) _) | (with_reducible refine ext_call ?_ HX1.out)))).mono ?_); rintro e w2 ⟨cs2, rfl, hm2, hx2⟩; have HM2 := Lib.hid (omk_mk hm2); obtain ⟨v2, rfl, hv2, _⟩ := hm2; obtain ⟨a3, n3, c3, rfl⟩ := osl_slice hv2; have hx3 := ext_call HX1.out hx2; have q0 := (hx3.cells (w.heap.size + 1) 0 (by simp <;> omega)).trans (show _ = some (.slice none 0 0) by go_simp); have qf0 := (hx3.frz (w.heap.size + 1) 0 (by simp <;> omega)).trans (show _ = false by go_simp); have q1 := (hx3.cells (w.heap.size + 1) 1 (by simp <;> omega)).trans (show _ = some (.int .i64 0) by go_simp); have qf1 := (hx3.frz (w.heap.size + 1) 1 (by simp <;> omega)).trans (show _ = false by go_simp); have HX3 := Lib.hid hx3; have hs2 := hx2.size; (try simp at hs2); clear hx2 hx3 hv2 m0 m1 r0 rf0 r1 rf1))
        | (go_at_call 62; go_must ((with_reducible refine (check_any (gMk.ext HM2.out (ext_alloc (ext_refl _) _))).mono ?_); rintro e w3 ⟨rfl, hx4⟩; have b0 := (hx4.cells w2.heap.size 0 (by simp <;> omega)).trans (show _ = some (.slice a3 n3 c3) by go_simp); have b1 := (hx4.cells w2.heap.size 1 (by simp <;> omega)).trans (show _ = some (.int .i64 (c + k)) by go_simp); have hx5 := ext_call (ext_call HX3.out (ext_alloc (ext_refl _) _)) hx4; clear q0 qf0 q1 qf1; have q0 := (hx5.cells (w.heap.size + 1) 0 (by simp <;> omega)).trans (show _ = some (.slice none 0 0) by go_simp); have qf0 := (hx5.frz (w.heap.size + 1) 0 (by simp <;> omega)).trans (show _ = false by go_simp); have q1 := (hx5.cells (w.heap.size + 1) 1 (by simp <;> omega)).trans (show _ = some (.int .i64 0) by go_simp); have qf1 := (hx5.frz (w.heap.size + 1) 1 (by simp <;> omega)).trans (show _ = false by go_simp); have HX5 := Lib.hid hx5; have HX4 := Lib.hid hx4; have hs3 := hx4.size; (try simp at hs3); clear hx4 hx5)))
        all_goals refine bodyPost_ret (v := .tuple #[.agg #[.slice none 0 0, .int .i64 0], .int .i64 3]) (by simp [results, Try.results63, go_sem, r0, r1, rf0, rf1, hs1]) rfl ⟨[.slice none 0 0, .int .i64 0], by rw [HE.out], by rw [HV.out]; exact ⟨_, rfl, RSl.nil_ (Nat.zero_le _), i64_small (by simp) (by simp)⟩, (by repeat (first | (with_reducible exact ext_refl _) | (with_reducible refine ext_drew ?_) | (with_reducible refine ext_drewN ?_ _) | (with_reducible refine ext_alloc ?_ _) | (with_reducible refine ext_set ?_ (by first | omega | (simp <;> omega)) _) | (with_reducible refine ext_call ?_ HX1.out)))⟩
      · have HA := Lib.hid (ha h0 (by omega) (by omega))
        clear ha
        obtain ⟨d1, d2⟩ := check_clock h0
        simp only at d1 d2
        have e0 : (afterM (l, c) k) = (addLast l k, c + k) := rfl
        rw [e0] at HA
        clear e0
        by_cases h3 : checkM (addLast l k, c + k) = 0
        · have t0 : (checkM (l, c) != 0) = false := (by rw [h0]; rfl)
          have t1 : (checkM (addLast l k, c + k) != 0) = false := (by rw [h3]; rfl)
          have H0 := Lib.hid h0
          have H3 := Lib.hid h3
          have HE := Lib.hid (show (nextM (l, c) k).2 = 0 from nextM_ok.2 ⟨h0, by omega, by omega, h3⟩)
          have HV := Lib.hid (show (nextM (l, c) k).1 = (addLast l k, c + k) from nextM_val (nextM_ok.2 ⟨h0, by omega, by omega, h3⟩))
          clear h0 h3
          go_enter Try.func63, Try.ntmps63
          go_wp2_with (first
        | (go_at_call 62; ((with_reducible refine (HC.out _ (by repeat (first | (with_reducible exact ext_refl _) | (with_reducible refine ext_drew ?_) | (with_reducible refine ext_drewN ?_ _) | (with_reducible refine ext_alloc ?_ _) | (with_reducible refine ext_set ?_ (by first | omega | (simp <;> omega)) _)))).mono ?_); rintro e w1 ⟨rfl, hx1⟩; have m0 := (hx1.cells (w.heap.size) 0 (by simp <;> omega)).trans (show _ = some (.slice a1 n1 c1) by go_simp); have m1 := (hx1.cells (w.heap.size) 1 (by simp <;> omega)).trans (show _ = some (.int .i64 c) by go_simp); have r0 := (hx1.cells (w.heap.size + 1) 0 (by simp <;> omega)).trans (show _ = some (.slice none 0 0) by go_simp); have rf0 := (hx1.frz (w.heap.size + 1) 0 (by simp <;> omega)).trans (show _ = false by go_simp); have r1 := (hx1.cells (w.heap.size + 1) 1 (by simp <;> omega)).trans (show _ = some (.int .i64 0) by go_simp); have rf1 := (hx1.frz (w.heap.size + 1) 1 (by simp <;> omega)).trans (show _ = false by go_simp); have HX1 := Lib.hid hx1; have hs1 := hx1.size; simp at hs1; clear hx1))
        | (go_at_call 74; go_must ((with_reducible refine (HA.out _ (by repeat (first | (with_reducible exact ext_refl _) | (with_reducible refine ext_drew ?_) | (with_reducible refine ext_drewN ?_ _) | (with_reducible refine ext_alloc ?_ _) | (with_reducible refine ext_set ?_ (by first | omega | (simp <;> omega)) _) | (with_reducible refine ext_call ?_ HX1.out)))).mono ?_); rintro e w2 ⟨cs2, rfl, hm2, hx2⟩; have HM2 := Lib.hid (omk_mk hm2); obtain ⟨v2, rfl, hv2, _⟩ := hm2; obtain ⟨a3, n3, c3, rfl⟩ := osl_slice hv2; have hx3 := ext_call HX1.out hx2; have q0 := (hx3.cells (w.heap.size + 1) 0 (by simp <;> omega)).trans (show _ = some (.slice none 0 0) by go_simp); have qf0 := (hx3.frz (w.heap.size + 1) 0 (by simp <;> omega)).trans (show _ = false by go_simp); have q1 := (hx3.cells (w.heap.size + 1) 1 (by simp <;> omega)).trans (show _ = some (.int .i64 0) by go_simp); have qf1 := (hx3.frz (w.heap.size + 1) 1 (by simp <;> omega)).trans (show _ = false by go_simp); have HX3 := Lib.hid hx3; have hs2 := hx2.size; (try simp at hs2); clear hx2 hx3 hv2 m0 m1 r0 rf0 r1 rf1))
        | (go_at_call 62; go_must ((with_reducible refine (check_any (gMk.ext HM2.out (ext_alloc (ext_refl _) _))).mono ?_); rintro e w3 ⟨rfl, hx4⟩; have b0 := (hx4.cells w2.heap.size 0 (by simp <;> omega)).trans (show _ = some (.slice a3 n3 c3) by go_simp); have b1 := (hx4.cells w2.heap.size 1 (by simp <;> omega)).trans (show _ = some (.int .i64 (c + k)) by go_simp); have hx5 := ext_call (ext_call HX3.out (ext_alloc (ext_refl _) _)) hx4; clear q0 qf0 q1 qf1; have q0 := (hx5.cells (w.heap.size + 1) 0 (by simp <;> omega)).trans (show _ = some (.slice none 0 0) by go_simp); have qf0 := (hx5.frz (w.heap.size + 1) 0 (by simp <;> omega)).trans (show _ = false by go_simp); have q1 := (hx5.cells (w.heap.size + 1) 1 (by simp <;> omega)).trans (show _ = some (.int .i64 0) by go_simp); have qf1 := (hx5.frz (w.heap.size + 1) 1 (by simp <;> omega)).trans (show _ = false by go_simp); have HX5 := Lib.hid hx5; have HX4 := Lib.hid hx4; have hs3 := hx4.size; (try simp at hs3); clear hx4 hx5)))
          all_goals refine bodyPost_ret (v := .tuple #[.agg #[.slice a3 n3 c3, .int .i64 (c + k)], .int .i64 0]) (by simp [results, Try.results63, go_sem, q0, q1, b0, b1, qf0, qf1, hs1, hs2, hs3]) rfl ⟨[.slice a3 n3 c3, .int .i64 (c + k)], by rw [HE.out], by rw [HV.out]; exact RMk_fin HM2.out (by repeat (first | (with_reducible exact keeps_refl) | (with_reducible refine keeps_drew ?_) | (with_reducible refine keeps_alloc ?_ _) | (with_reducible refine keeps_set ?_ (by first | omega | (simp <;> omega)) _) | (with_reducible refine keeps_ext ?_ HX4.out)))  (by first | omega | (simp <;> omega)), (by repeat (first | (with_reducible exact ext_refl _) | (with_reducible refine ext_drew ?_) | (with_reducible refine ext_drewN ?_ _) | (with_reducible refine ext_alloc ?_ _) | (with_reducible refine ext_set ?_ (by first | omega | (simp <;> omega)) _) | (with_reducible refine ext_call ?_ HX5.out)))⟩
        · have t0 : (checkM (l, c) != 0) = false := (by rw [h0]; rfl)
          have t1 : (checkM (addLast l k, c + k) != 0) = true := (by rw [bne_iff_ne]; exact h3)
          have H0 := Lib.hid h0
          have H3 := Lib.hid h3
          have HE := Lib.hid (show (nextM (l, c) k).2 = 3 from nextM_bad h0 (by omega) (by omega) h3)
          have HV := Lib.hid (show (nextM (l, c) k).1 = ([], 0) from nextM_err (by rw [nextM_bad h0 (by omega) (by omega) h3]; decide))
          clear h0 h3
          go_enter Try.func63, Try.ntmps63
          go_wp2_with (first
        | (go_at_call 62; ((with_reducible refine (HC.out _ (by repeat (first | (with_reducible exact ext_refl _) | (with_reducible refine ext_drew ?_) | (with_reducible refine ext_drewN ?_ _) | (with_reducible refine ext_alloc ?_ _) | (with_reducible refine ext_set ?_ (by first | omega | (simp <;> omega)) _)))).mono ?_); rintro e w1 ⟨rfl, hx1⟩; have m0 := (hx1.cells (w.heap.size) 0 (by simp <;> omega)).trans (show _ = some (.slice a1 n1 c1) by go_simp); have m1 := (hx1.cells (w.heap.size) 1 (by simp <;> omega)).trans (show _ = some (.int .i64 c) by go_simp); have r0 := (hx1.cells (w.heap.size + 1) 0 (by simp <;> omega)).trans (show _ = some (.slice none 0 0) by go_simp); have rf0 := (hx1.frz (w.heap.size + 1) 0 (by simp <;> omega)).trans (show _ = false by go_simp); have r1 := (hx1.cells (w.heap.size + 1) 1 (by simp <;> omega)).trans (show _ = some (.int .i64 0) by go_simp); have rf1 := (hx1.frz (w.heap.size + 1) 1 (by simp <;> omega)).trans (show _ = false by go_simp); have HX1 := Lib.hid hx1; have hs1 := hx1.size; simp at hs1; clear hx1))
        | (go_at_call 74; go_must ((with_reducible refine (HA.out _ (by repeat (first | (with_reducible exact ext_refl _) | (with_reducible refine ext_drew ?_) | (with_reducible refine ext_drewN ?_ _) | (with_reducible refine ext_alloc ?_ _) | (with_reducible refine ext_set ?_ (by first | omega | (simp <;> omega)) _) | (with_reducible refine ext_call ?_ HX1.out)))).mono ?_); rintro e w2 ⟨cs2, rfl, hm2, hx2⟩; have HM2 := Lib.hid (omk_mk hm2); obtain ⟨v2, rfl, hv2, _⟩ := hm2; obtain ⟨a3, n3, c3, rfl⟩ := osl_slice hv2; have hx3 := ext_call HX1.out hx2; have q0 := (hx3.cells (w.heap.size + 1) 0 (by simp <;> omega)).trans (show _ = some (.slice none 0 0) by go_simp); have qf0 := (hx3.frz (w.heap.size + 1) 0 (by simp <;> omega)).trans (show _ = false by go_simp); have q1 := (hx3.cells (w.heap.size + 1) 1 (by simp <;> omega)).trans (show _ = some (.int .i64 0) by go_simp); have qf1 := (hx3.frz (w.heap.size + 1) 1 (by simp <;> omega)).trans (show _ = false by go_simp); have HX3 := Lib.hid hx3; have hs2 := hx2.size; (try simp at hs2); clear hx2 hx3 hv2 m0 m1 r0 rf0 r1 rf1))
        | (go_at_call 62; go_must ((with_reducible refine (check_any (gMk.ext HM2.out (ext_alloc (ext_refl _) _))).mono ?_); rintro e w3 ⟨rfl, hx4⟩; have b0 := (hx4.cells w2.heap.size 0 (by simp <;> omega)).trans (show _ = some (.slice a3 n3 c3) by go_simp); have b1 := (hx4.cells w2.heap.size 1 (by simp <;> omega)).trans (show _ = some (.int .i64 (c + k)) by go_simp); have hx5 := ext_call (ext_call HX3.out (ext_alloc (ext_refl _) _)) hx4; clear q0 qf0 q1 qf1; have q0 := (hx5.cells (w.heap.size + 1) 0 (by simp <;> omega)).trans (show _ = some (.slice none 0 0) by go_simp); have qf0 := (hx5.frz (w.heap.size + 1) 0 (by simp <;> omega)).trans (show _ = false by go_simp); have q1 := (hx5.cells (w.heap.size + 1) 1 (by simp <;> omega)).trans (show _ = some (.int .i64 0) by go_simp); have qf1 := (hx5.frz (w.heap.size + 1) 1 (by simp <;> omega)).trans (show _ = false by go_simp); have HX5 := Lib.hid hx5; have HX4 := Lib.hid hx4; have hs3 := hx4.size; (try simp at hs3); clear hx4 hx5)))
          all_goals refine bodyPost_ret (v := .tuple #[.agg #[.slice none 0 0, .int .i64 0], .int .i64 3]) (by simp [results, Try.results63, go_sem, q0, q1, qf0, qf1, hs1, hs2, hs3]) rfl ⟨[.slice none 0 0, .int .i64 0], by rw [HE.out], by rw [HV.out]; exact ⟨_, rfl, RSl.nil_ (Nat.zero_le _), i64_small (by simp) (by simp)⟩, (by repeat (first | (with_reducible exact ext_refl _) | (with_reducible refine ext_drew ?_) | (with_reducible refine ext_drewN ?_ _) | (with_reducible refine ext_alloc ?_ _) | (with_reducible refine ext_set ?_ (by first | omega | (simp <;> omega)) _) | (with_reducible refine ext_call ?_ HX5.out)))⟩
  · have t0 : (checkM (l, c) != 0) = true := (by rw [bne_iff_ne]; exact h0)
    clear ha
    have HE := Lib.hid (show (nextM (l, c) k).2 = (checkM (l, c)) from nextM_chk h0)
    have HV := Lib.hid (show (nextM (l, c) k).1 = ([], 0) from nextM_err (by rw [nextM_chk h0]; exact h0))
    have H0 := Lib.hid h0
    clear h0
    go_enter Try.func63, Try.ntmps63
    go_wp2_with (first
        | (go_at_call 62; ((with_reducible refine (HC.out _ (by repeat (first | (with_reducible exact ext_refl _) | (with_reducible refine ext_drew ?_) | (with_reducible refine ext_drewN ?_ _) | (with_reducible refine ext_alloc ?_ _) | (with_reducible refine ext_set ?_ (by first | omega | (simp <;> omega)) _)))).mono ?_); rintro e w1 ⟨rfl, hx1⟩; have m0 := (hx1.cells (w.heap.size) 0 (by simp <;> omega)).trans (show _ = some (.slice a1 n1 c1) by go_simp); have m1 := (hx1.cells (w.heap.size) 1 (by simp <;> omega)).trans (show _ = some (.int .i64 c) by go_simp); have r0 := (hx1.cells (w.heap.size + 1) 0 (by simp <;> omega)).trans (show _ = some (.slice none 0 0) by go_simp); have rf0 := (hx1.frz (w.heap.size + 1) 0 (by simp <;> omega)).trans (show _ = false by go_simp); have r1 := (hx1.cells (w.heap.size + 1) 1 (by simp <;> omega)).trans (show _ = some (.int .i64 0) by go_simp); have rf1 := (hx1.frz (w.heap.size + 1) 1 (by simp <;> omega)).trans (show _ = false by go_simp); have HX1 := Lib.hid hx1; have hs1 := hx1.size; simp at hs1; clear hx1))
        | (go_at_call 74; go_must ((with_reducible refine (HA.out _ (by repeat (first | (with_reducible exact ext_refl _) | (with_reducible refine ext_drew ?_) | (with_reducible refine ext_drewN ?_ _) | (with_reducible refine ext_alloc ?_ _) | (with_reducible refine ext_set ?_ (by first | omega | (simp <;> omega)) _) | (with_reducible refine ext_call ?_ HX1.out)))).mono ?_); rintro e w2 ⟨cs2, rfl, hm2, hx2⟩; have HM2 := Lib.hid (omk_mk hm2); obtain ⟨v2, rfl, hv2, _⟩ := hm2; obtain ⟨a3, n3, c3, rfl⟩ := osl_slice hv2; have hx3 := ext_call HX1.out hx2; have q0 := (hx3.cells (w.heap.size + 1) 0 (by simp <;> omega)).trans (show _ = some (.slice none 0 0) by go_simp); have qf0 := (hx3.frz (w.heap.size + 1) 0 (by simp <;> omega)).trans (show _ = false by go_simp); have q1 := (hx3.cells (w.heap.size + 1) 1 (by simp <;> omega)).trans (show _ = some (.int .i64 0) by go_simp); have qf1 := (hx3.frz (w.heap.size + 1) 1 (by simp <;> omega)).trans (show _ = false by go_simp); have HX3 := Lib.hid hx3; have hs2 := hx2.size; (try simp at hs2); clear hx2 hx3 hv2 m0 m1 r0 rf0 r1 rf1))
        | (go_at_call 62; go_must ((with_reducible refine (check_any (gMk.ext HM2.out (ext_alloc (ext_refl _) _))).mono ?_); rintro e w3 ⟨rfl, hx4⟩; have b0 := (hx4.cells w2.heap.size 0 (by simp <;> omega)).trans (show _ = some (.slice a3 n3 c3) by go_simp); have b1 := (hx4.cells w2.heap.size 1 (by simp <;> omega)).trans (show _ = some (.int .i64 (c + k)) by go_simp); have hx5 := ext_call (ext_call HX3.out (ext_alloc (ext_refl _) _)) hx4; clear q0 qf0 q1 qf1; have q0 := (hx5.cells (w.heap.size + 1) 0 (by simp <;> omega)).trans (show _ = some (.slice none 0 0) by go_simp); have qf0 := (hx5.frz (w.heap.size + 1) 0 (by simp <;> omega)).trans (show _ = false by go_simp); have q1 := (hx5.cells (w.heap.size + 1) 1 (by simp <;> omega)).trans (show _ = some (.int .i64 0) by go_simp); have qf1 := (hx5.frz (w.heap.size + 1) 1 (by simp <;> omega)).trans (show _ = false by go_simp); have HX5 := Lib.hid hx5; have HX4 := Lib.hid hx4; have hs3 := hx4.size; (try simp at hs3); clear hx4 hx5)))
    all_goals refine bodyPost_ret (v := .tuple #[.agg #[.slice none 0 0, .int .i64 0], .int .i64 (checkM (l, c))]) (by simp [results, Try.results63, go_sem, r0, r1, rf0, rf1, hs1]) rfl ⟨[.slice none 0 0, .int .i64 0], by rw [HE.out], by rw [HV.out]; exact ⟨_, rfl, RSl.nil_ (Nat.zero_le _), i64_small (by simp) (by simp)⟩, (by repeat (first | (with_reducible exact ext_refl _) | (with_reducible refine ext_drew ?_) | (with_reducible refine ext_drewN ?_ _) | (with_reducible refine ext_alloc ?_ _) | (with_reducible refine ext_set ?_ (by first | omega | (simp <;> omega)) _) | (with_reducible refine ext_call ?_ HX1.out)))⟩

set_option maxRecDepth 100000 in
set_option maxHeartbeats 1600000 in
theorem nextOf_any {F : Nat → Prop} {w : World} {cs : List Value} {m : Mk} {k : Int} (h : RMk F w cs m) :
    Calls Try.prog 55 #[.agg cs.toArray, .int .i64 k] w (IsMarkE (nextM m k).1 (nextM m k).2 w) := by
  have HC := Lib.hid (fun (W : World) (hx : Ext w W) => checkMark_any (gMk.ext h hx))
  have ha := fun (h0 : checkM m = 0) (h1 : 0 ≤ k) (h2 : k ≤ 60) (W : World) (hx : Ext w W) => afterOf_any (k := k) (gMk.ext h hx) (check_len h0) (check_ne h0) (check_digit h0) (check_clock h0) ⟨h1, by omega⟩
  obtain ⟨v, rfl, hl, hi64⟩ := h
  obtain ⟨l, c⟩ := m
  simp only at hl ha ⊢
  obtain ⟨a1, n1, c1, rfl⟩ := hl.slice
  clear hl hi64
  by_cases h0 : checkM (l, c) = 0
  · by_cases h1 : k < 0
    · have t0 : (checkM (l, c) != 0) = false := (by rw [h0]; rfl)
      have g1 : inB k 0 60 = false := (by unfold inB; simp; omega)
      clear ha
      have HE := Lib.hid (show (nextM (l, c) k).2 = 3 from nextM_rng h0 (.inl h1))
      have HV := Lib.hid (show (nextM (l, c) k).1 = ([], 0) from nextM_err (by rw [nextM_rng h0 (.inl h1)]; decide))
      clear h0
      go_enter Try.func55, Try.ntmps55
      go_wp2_with (first
        | (go_at_call 54; ((with_reducible refine (HC.out _ (by repeat (first | (with_reducible exact ext_refl _) | (with_reducible refine ext_drew ?_) | (with_reducible refine ext_drewN ?_ _) | (with_reducible refine ext_alloc ?_ _) | (with_reducible refine ext_set ?_ (by first | omega | (simp <;> omega)) _)))).mono ?_); rintro e w1 ⟨rfl, hx1⟩; have m0 := (hx1.cells (w.heap.size) 0 (by simp <;> omega)).trans (show _ = some (.slice a1 n1 c1) by go_simp); have m1 := (hx1.cells (w.heap.size) 1 (by simp <;> omega)).trans (show _ = some (.int .i64 c) by go_simp); have r0 := (hx1.cells (w.heap.size + 1) 0 (by simp <;> omega)).trans (show _ = some (.slice none 0 0) by go_simp); have rf0 := (hx1.frz (w.heap.size + 1) 0 (by simp <;> omega)).trans (show _ = false by go_simp); have r1 := (hx1.cells (w.heap.size + 1) 1 (by simp <;> omega)).trans (show _ = some (.int .i64 0) by go_simp); have rf1 := (hx1.frz (w.heap.size + 1) 1 (by simp <;> omega)).trans (show _ = false by go_simp); have HX1 := Lib.hid hx1; have hs1 := hx1.size; simp at hs1; clear hx1))
        | (go_at_call 69; go_must ((with_reducible refine (HA.out _ (by repeat (first | (with_reducible exact ext_refl _) | (with_reducible refine ext_drew ?_) | (with_reducible refine ext_drewN ?_ _) | (with_reducible refine ext_alloc ?_ _) | (with_reducible refine ext_set ?_ (by first | omega | (simp <;> omega)) _) | (with_reducible refine ext_call ?_ HX1.out)))).mono ?_); rintro e w2 ⟨cs2, rfl, hm2, hx2⟩; have HM2 := Lib.hid (omk_mk hm2); obtain ⟨v2, rfl, hv2, _⟩ := hm2; obtain ⟨a3, n3, c3, rfl⟩ := osl_slice hv2; have hx3 := ext_call HX1.out hx2; have q0 := (hx3.cells (w.heap.size + 1) 0 (by simp <;> omega)).trans (show _ = some (.slice none 0 0) by go_simp); have qf0 := (hx3.frz (w.heap.size + 1) 0 (by simp <;> omega)).trans (show _ = false by go_simp); have q1 := (hx3.cells (w.heap.size + 1) 1 (by simp <;> omega)).trans (show _ = some (.int .i64 0) by go_simp); have qf1 := (hx3.frz (w.heap.size + 1) 1 (by simp <;> omega)).trans (show _ = false by go_simp); have HX3 := Lib.hid hx3; have hs2 := hx2.size; (try simp at hs2); clear hx2 hx3 hv2 m0 m1 r0 rf0 r1 rf1))
        | (go_at_call 54; go_must ((with_reducible refine (checkMark_any (gMk.ext HM2.out (ext_alloc (ext_refl _) _))).mono ?_); rintro e w3 ⟨rfl, hx4⟩; have b0 := (hx4.cells w2.heap.size 0 (by simp <;> omega)).trans (show _ = some (.slice a3 n3 c3) by go_simp); have b1 := (hx4.cells w2.heap.size 1 (by simp <;> omega)).trans (show _ = some (.int .i64 (c + k)) by go_simp); have hx5 := ext_call (ext_call HX3.out (ext_alloc (ext_refl _) _)) hx4; clear q0 qf0 q1 qf1; have q0 := (hx5.cells (w.heap.size + 1) 0 (by simp <;> omega)).trans (show _ = some (.slice none 0 0) by go_simp); have qf0 := (hx5.frz (w.heap.size + 1) 0 (by simp <;> omega)).trans (show _ = false by go_simp); have q1 := (hx5.cells (w.heap.size + 1) 1 (by simp <;> omega)).trans (show _ = some (.int .i64 0) by go_simp); have qf1 := (hx5.frz (w.heap.size + 1) 1 (by simp <;> omega)).trans (show _ = false by go_simp); have HX5 := Lib.hid hx5; have HX4 := Lib.hid hx4; have hs3 := hx4.size; (try simp at hs3); clear hx4 hx5))
        | (go_at_call 30; refine (between_any _ _ _ _).mono ?_; rintro e w9 ⟨rfl, rfl⟩))
      all_goals refine bodyPost_ret (v := .tuple #[.agg #[.slice none 0 0, .int .i64 0], .int .i64 3]) (by simp [results, Try.results55, go_sem, r0, r1, rf0, rf1, hs1]) rfl ⟨[.slice none 0 0, .int .i64 0], by rw [HE.out], by rw [HV.out]; exact ⟨_, rfl, RSl.nil_ (Nat.zero_le _), i64_small (by simp) (by simp)⟩, (by repeat (first | (with_reducible exact ext_refl _) | (with_reducible refine ext_drew ?_) | (with_reducible refine ext_drewN ?_ _) | (with_reducible refine ext_alloc ?_ _) | (with_reducible refine ext_set ?_ (by first | omega | (simp <;> omega)) _) | (with_reducible refine ext_call ?_ HX1.out)))⟩
    · by_cases h2 : 60 < k
      · have t0 : (checkM (l, c) != 0) = false := (by rw [h0]; rfl)
        have g1 : inB k 0 60 = false := (by unfold inB; simp; omega)
        clear ha
        have HE := Lib.hid (show (nextM (l, c) k).2 = 3 from nextM_rng h0 (.inr h2))
        have HV := Lib.hid (show (nextM (l, c) k).1 = ([], 0) from nextM_err (by rw [nextM_rng h0 (.inr h2)]; decide))
        clear h0
        go_enter Try.func55, Try.ntmps55
        go_wp2_with (first
        | (go_at_call 54; ((with_reducible refine (HC.out _ (by repeat (first | (with_reducible exact ext_refl _) | (with_reducible refine ext_drew ?_) | (with_reducible refine ext_drewN ?_ _) | (with_reducible refine ext_alloc ?_ _) | (with_reducible refine ext_set ?_ (by first | omega | (simp <;> omega)) _)))).mono ?_); rintro e w1 ⟨rfl, hx1⟩; have m0 := (hx1.cells (w.heap.size) 0 (by simp <;> omega)).trans (show _ = some (.slice a1 n1 c1) by go_simp); have m1 := (hx1.cells (w.heap.size) 1 (by simp <;> omega)).trans (show _ = some (.int .i64 c) by go_simp); have r0 := (hx1.cells (w.heap.size + 1) 0 (by simp <;> omega)).trans (show _ = some (.slice none 0 0) by go_simp); have rf0 := (hx1.frz (w.heap.size + 1) 0 (by simp <;> omega)).trans (show _ = false by go_simp); have r1 := (hx1.cells (w.heap.size + 1) 1 (by simp <;> omega)).trans (show _ = some (.int .i64 0) by go_simp); have rf1 := (hx1.frz (w.heap.size + 1) 1 (by simp <;> omega)).trans (show _ = false by go_simp); have HX1 := Lib.hid hx1; have hs1 := hx1.size; simp at hs1; clear hx1))
        | (go_at_call 69; go_must ((with_reducible refine (HA.out _ (by repeat (first | (with_reducible exact ext_refl _) | (with_reducible refine ext_drew ?_) | (with_reducible refine ext_drewN ?_ _) | (with_reducible refine ext_alloc ?_ _) | (with_reducible refine ext_set ?_ (by first | omega | (simp <;> omega)) _) | (with_reducible refine ext_call ?_ HX1.out)))).mono ?_); rintro e w2 ⟨cs2, rfl, hm2, hx2⟩; have HM2 := Lib.hid (omk_mk hm2); obtain ⟨v2, rfl, hv2, _⟩ := hm2; obtain ⟨a3, n3, c3, rfl⟩ := osl_slice hv2; have hx3 := ext_call HX1.out hx2; have q0 := (hx3.cells (w.heap.size + 1) 0 (by simp <;> omega)).trans (show _ = some (.slice none 0 0) by go_simp); have qf0 := (hx3.frz (w.heap.size + 1) 0 (by simp <;> omega)).trans (show _ = false by go_simp); have q1 := (hx3.cells (w.heap.size + 1) 1 (by simp <;> omega)).trans (show _ = some (.int .i64 0) by go_simp); have qf1 := (hx3.frz (w.heap.size + 1) 1 (by simp <;> omega)).trans (show _ = false by go_simp); have HX3 := Lib.hid hx3; have hs2 := hx2.size; (try simp at hs2); clear hx2 hx3 hv2 m0 m1 r0 rf0 r1 rf1))
        | (go_at_call 54; go_must ((with_reducible refine (checkMark_any (gMk.ext HM2.out (ext_alloc (ext_refl _) _))).mono ?_); rintro e w3 ⟨rfl, hx4⟩; have b0 := (hx4.cells w2.heap.size 0 (by simp <;> omega)).trans (show _ = some (.slice a3 n3 c3) by go_simp); have b1 := (hx4.cells w2.heap.size 1 (by simp <;> omega)).trans (show _ = some (.int .i64 (c + k)) by go_simp); have hx5 := ext_call (ext_call HX3.out (ext_alloc (ext_refl _) _)) hx4; clear q0 qf0 q1 qf1; have q0 := (hx5.cells (w.heap.size + 1) 0 (by simp <;> omega)).trans (show _ = some (.slice none 0 0) by go_simp); have qf0 := (hx5.frz (w.heap.size + 1) 0 (by simp <;> omega)).trans (show _ = false by go_simp); have q1 := (hx5.cells (w.heap.size + 1) 1 (by simp <;> omega)).trans (show _ = some (.int .i64 0) by go_simp); have qf1 := (hx5.frz (w.heap.size + 1) 1 (by simp <;> omega)).trans (show _ = false by go_simp); have HX5 := Lib.hid hx5; have HX4 := Lib.hid hx4; have hs3 := hx4.size; (try simp at hs3); clear hx4 hx5))
        | (go_at_call 30; refine (between_any _ _ _ _).mono ?_; rintro e w9 ⟨rfl, rfl⟩))
        all_goals refine bodyPost_ret (v := .tuple #[.agg #[.slice none 0 0, .int .i64 0], .int .i64 3]) (by simp [results, Try.results55, go_sem, r0, r1, rf0, rf1, hs1]) rfl ⟨[.slice none 0 0, .int .i64 0], by rw [HE.out], by rw [HV.out]; exact ⟨_, rfl, RSl.nil_ (Nat.zero_le _), i64_small (by simp) (by simp)⟩, (by repeat (first | (with_reducible exact ext_refl _) | (with_reducible refine ext_drew ?_) | (with_reducible refine ext_drewN ?_ _) | (with_reducible refine ext_alloc ?_ _) | (with_reducible refine ext_set ?_ (by first | omega | (simp <;> omega)) _) | (with_reducible refine ext_call ?_ HX1.out)))⟩
      · have HA := Lib.hid (ha h0 (by omega) (by omega))
        clear ha
        obtain ⟨d1, d2⟩ := check_clock h0
        simp only at d1 d2
        have e0 : (afterM (l, c) k) = (addLast l k, c + k) := rfl
        rw [e0] at HA
        clear e0
        have g1 : inB k 0 60 = true := (by unfold inB; simp; omega)
        by_cases h3 : checkM (addLast l k, c + k) = 0
        · have t0 : (checkM (l, c) != 0) = false := (by rw [h0]; rfl)
          have t1 : (checkM (addLast l k, c + k) != 0) = false := (by rw [h3]; rfl)
          have H0 := Lib.hid h0
          have H3 := Lib.hid h3
          have HE := Lib.hid (show (nextM (l, c) k).2 = 0 from nextM_ok.2 ⟨h0, by omega, by omega, h3⟩)
          have HV := Lib.hid (show (nextM (l, c) k).1 = (addLast l k, c + k) from nextM_val (nextM_ok.2 ⟨h0, by omega, by omega, h3⟩))
          clear h0 h3
          go_enter Try.func55, Try.ntmps55
          go_wp2_with (first
        | (go_at_call 54; ((with_reducible refine (HC.out _ (by repeat (first | (with_reducible exact ext_refl _) | (with_reducible refine ext_drew ?_) | (with_reducible refine ext_drewN ?_ _) | (with_reducible refine ext_alloc ?_ _) | (with_reducible refine ext_set ?_ (by first | omega | (simp <;> omega)) _)))).mono ?_); rintro e w1 ⟨rfl, hx1⟩; have m0 := (hx1.cells (w.heap.size) 0 (by simp <;> omega)).trans (show _ = some (.slice a1 n1 c1) by go_simp); have m1 := (hx1.cells (w.heap.size) 1 (by simp <;> omega)).trans (show _ = some (.int .i64 c) by go_simp); have r0 := (hx1.cells (w.heap.size + 1) 0 (by simp <;> omega)).trans (show _ = some (.slice none 0 0) by go_simp); have rf0 := (hx1.frz (w.heap.size + 1) 0 (by simp <;> omega)).trans (show _ = false by go_simp); have r1 := (hx1.cells (w.heap.size + 1) 1 (by simp <;> omega)).trans (show _ = some (.int .i64 0) by go_simp); have rf1 := (hx1.frz (w.heap.size + 1) 1 (by simp <;> omega)).trans (show _ = false by go_simp); have HX1 := Lib.hid hx1; have hs1 := hx1.size; simp at hs1; clear hx1))
        | (go_at_call 69; go_must ((with_reducible refine (HA.out _ (by repeat (first | (with_reducible exact ext_refl _) | (with_reducible refine ext_drew ?_) | (with_reducible refine ext_drewN ?_ _) | (with_reducible refine ext_alloc ?_ _) | (with_reducible refine ext_set ?_ (by first | omega | (simp <;> omega)) _) | (with_reducible refine ext_call ?_ HX1.out)))).mono ?_); rintro e w2 ⟨cs2, rfl, hm2, hx2⟩; have HM2 := Lib.hid (omk_mk hm2); obtain ⟨v2, rfl, hv2, _⟩ := hm2; obtain ⟨a3, n3, c3, rfl⟩ := osl_slice hv2; have hx3 := ext_call HX1.out hx2; have q0 := (hx3.cells (w.heap.size + 1) 0 (by simp <;> omega)).trans (show _ = some (.slice none 0 0) by go_simp); have qf0 := (hx3.frz (w.heap.size + 1) 0 (by simp <;> omega)).trans (show _ = false by go_simp); have q1 := (hx3.cells (w.heap.size + 1) 1 (by simp <;> omega)).trans (show _ = some (.int .i64 0) by go_simp); have qf1 := (hx3.frz (w.heap.size + 1) 1 (by simp <;> omega)).trans (show _ = false by go_simp); have HX3 := Lib.hid hx3; have hs2 := hx2.size; (try simp at hs2); clear hx2 hx3 hv2 m0 m1 r0 rf0 r1 rf1))
        | (go_at_call 54; go_must ((with_reducible refine (checkMark_any (gMk.ext HM2.out (ext_alloc (ext_refl _) _))).mono ?_); rintro e w3 ⟨rfl, hx4⟩; have b0 := (hx4.cells w2.heap.size 0 (by simp <;> omega)).trans (show _ = some (.slice a3 n3 c3) by go_simp); have b1 := (hx4.cells w2.heap.size 1 (by simp <;> omega)).trans (show _ = some (.int .i64 (c + k)) by go_simp); have hx5 := ext_call (ext_call HX3.out (ext_alloc (ext_refl _) _)) hx4; clear q0 qf0 q1 qf1; have q0 := (hx5.cells (w.heap.size + 1) 0 (by simp <;> omega)).trans (show _ = some (.slice none 0 0) by go_simp); have qf0 := (hx5.frz (w.heap.size + 1) 0 (by simp <;> omega)).trans (show _ = false by go_simp); have q1 := (hx5.cells (w.heap.size + 1) 1 (by simp <;> omega)).trans (show _ = some (.int .i64 0) by go_simp); have qf1 := (hx5.frz (w.heap.size + 1) 1 (by simp <;> omega)).trans (show _ = false by go_simp); have HX5 := Lib.hid hx5; have HX4 := Lib.hid hx4; have hs3 := hx4.size; (try simp at hs3); clear hx4 hx5))
        | (go_at_call 30; refine (between_any _ _ _ _).mono ?_; rintro e w9 ⟨rfl, rfl⟩))
          all_goals refine bodyPost_ret (v := .tuple #[.agg #[.slice a3 n3 c3, .int .i64 (c + k)], .int .i64 0]) (by simp [results, Try.results55, go_sem, q0, q1, b0, b1, qf0, qf1, hs1, hs2, hs3]) rfl ⟨[.slice a3 n3 c3, .int .i64 (c + k)], by rw [HE.out], by rw [HV.out]; exact RMk_fin HM2.out (by repeat (first | (with_reducible exact keeps_refl) | (with_reducible refine keeps_drew ?_) | (with_reducible refine keeps_alloc ?_ _) | (with_reducible refine keeps_set ?_ (by first | omega | (simp <;> omega)) _) | (with_reducible refine keeps_ext ?_ HX4.out)))  (by first | omega | (simp <;> omega)), (by repeat (first | (with_reducible exact ext_refl _) | (with_reducible refine ext_drew ?_) | (with_reducible refine ext_drewN ?_ _) | (with_reducible refine ext_alloc ?_ _) | (with_reducible refine ext_set ?_ (by first | omega | (simp <;> omega)) _) | (with_reducible refine ext_call ?_ HX5.out)))⟩
        · have t0 : (checkM (l, c) != 0) = false := (by rw [h0]; rfl)
          have t1 : (checkM (addLast l k, c + k) != 0) = true := (by rw [bne_iff_ne]; exact h3)
          have H0 := Lib.hid h0
          have H3 := Lib.hid h3
          have HE := Lib.hid (show (nextM (l, c) k).2 = 3 from nextM_bad h0 (by omega) (by omega) h3)
          have HV := Lib.hid (show (nextM (l, c) k).1 = ([], 0) from nextM_err (by rw [nextM_bad h0 (by omega) (by omega) h3]; decide))
          clear h0 h3
          go_enter Try.func55, Try.ntmps55
          go_wp2_with (first
        | (go_at_call 54; ((with_reducible refine (HC.out _ (by repeat (first | (with_reducible exact ext_refl _) | (with_reducible refine ext_drew ?_) | (with_reducible refine ext_drewN ?_ _) | (with_reducible refine ext_alloc ?_ _) | (with_reducible refine ext_set ?_ (by first | omega | (simp <;> omega)) _)))).mono ?_); rintro e w1 ⟨rfl, hx1⟩; have m0 := (hx1.cells (w.heap.size) 0 (by simp <;> omega)).trans (show _ = some (.slice a1 n1 c1) by go_simp); have m1 := (hx1.cells (w.heap.size) 1 (by simp <;> omega)).trans (show _ = some (.int .i64 c) by go_simp); have r0 := (hx1.cells (w.heap.size + 1) 0 (by simp <;> omega)).trans (show _ = some (.slice none 0 0) by go_simp); have rf0 := (hx1.frz (w.heap.size + 1) 0 (by simp <;> omega)).trans (show _ = false by go_simp); have r1 := (hx1.cells (w.heap.size + 1) 1 (by simp <;> omega)).trans (show _ = some (.int .i64 0) by go_simp); have rf1 := (hx1.frz (w.heap.size + 1) 1 (by simp <;> omega)).trans (show _ = false by go_simp); have HX1 := Lib.hid hx1; have hs1 := hx1.size; simp at hs1; clear hx1))
        | (go_at_call 69; go_must ((with_reducible refine (HA.out _ (by repeat (first | (with_reducible exact ext_refl _) | (with_reducible refine ext_drew ?_) | (with_reducible refine ext_drewN ?_ _) | (with_reducible refine ext_alloc ?_ _) | (with_reducible refine ext_set ?_ (by first | omega | (simp <;> omega)) _) | (with_reducible refine ext_call ?_ HX1.out)))).mono ?_); rintro e w2 ⟨cs2, rfl, hm2, hx2⟩; have HM2 := Lib.hid (omk_mk hm2); obtain ⟨v2, rfl, hv2, _⟩ := hm2; obtain ⟨a3, n3, c3, rfl⟩ := osl_slice hv2; have hx3 := ext_call HX1.out hx2; have q0 := (hx3.cells (w.heap.size + 1) 0 (by simp <;> omega)).trans (show _ = some (.slice none 0 0) by go_simp); have qf0 := (hx3.frz (w.heap.size + 1) 0 (by simp <;> omega)).trans (show _ = false by go_simp); have q1 := (hx3.cells (w.heap.size + 1) 1 (by simp <;> omega)).trans (show _ = some (.int .i64 0) by go_simp); have qf1 := (hx3.frz (w.heap.size + 1) 1 (by simp <;> omega)).trans (show _ = false by go_simp); have HX3 := Lib.hid hx3; have hs2 := hx2.size; (try simp at hs2); clear hx2 hx3 hv2 m0 m1 r0 rf0 r1 rf1))
        | (go_at_call 54; go_must ((with_reducible refine (checkMark_any (gMk.ext HM2.out (ext_alloc (ext_refl _) _))).mono ?_); rintro e w3 ⟨rfl, hx4⟩; have b0 := (hx4.cells w2.heap.size 0 (by simp <;> omega)).trans (show _ = some (.slice a3 n3 c3) by go_simp); have b1 := (hx4.cells w2.heap.size 1 (by simp <;> omega)).trans (show _ = some (.int .i64 (c + k)) by go_simp); have hx5 := ext_call (ext_call HX3.out (ext_alloc (ext_refl _) _)) hx4; clear q0 qf0 q1 qf1; have q0 := (hx5.cells (w.heap.size + 1) 0 (by simp <;> omega)).trans (show _ = some (.slice none 0 0) by go_simp); have qf0 := (hx5.frz (w.heap.size + 1) 0 (by simp <;> omega)).trans (show _ = false by go_simp); have q1 := (hx5.cells (w.heap.size + 1) 1 (by simp <;> omega)).trans (show _ = some (.int .i64 0) by go_simp); have qf1 := (hx5.frz (w.heap.size + 1) 1 (by simp <;> omega)).trans (show _ = false by go_simp); have HX5 := Lib.hid hx5; have HX4 := Lib.hid hx4; have hs3 := hx4.size; (try simp at hs3); clear hx4 hx5))
        | (go_at_call 30; refine (between_any _ _ _ _).mono ?_; rintro e w9 ⟨rfl, rfl⟩))
          all_goals refine bodyPost_ret (v := .tuple #[.agg #[.slice none 0 0, .int .i64 0], .int .i64 3]) (by simp [results, Try.results55, go_sem, q0, q1, qf0, qf1, hs1, hs2, hs3]) rfl ⟨[.slice none 0 0, .int .i64 0], by rw [HE.out], by rw [HV.out]; exact ⟨_, rfl, RSl.nil_ (Nat.zero_le _), i64_small (by simp) (by simp)⟩, (by repeat (first | (with_reducible exact ext_refl _) | (with_reducible refine ext_drew ?_) | (with_reducible refine ext_drewN ?_ _) | (with_reducible refine ext_alloc ?_ _) | (with_reducible refine ext_set ?_ (by first | omega | (simp <;> omega)) _) | (with_reducible refine ext_call ?_ HX5.out)))⟩
  · have t0 : (checkM (l, c) != 0) = true := (by rw [bne_iff_ne]; exact h0)
    clear ha
    have HE := Lib.hid (show (nextM (l, c) k).2 = (checkM (l, c)) from nextM_chk h0)
    have HV := Lib.hid (show (nextM (l, c) k).1 = ([], 0) from nextM_err (by rw [nextM_chk h0]; exact h0))
    have H0 := Lib.hid h0
    clear h0
    go_enter Try.func55, Try.ntmps55
    go_wp2_with (first
        | (go_at_call 54; ((with_reducible refine (HC.out _ (by repeat (first | (with_reducible exact ext_refl _) | (with_reducible refine ext_drew ?_) | (with_reducible refine ext_drewN ?_ _) | (with_reducible refine ext_alloc ?_ _) | (with_reducible refine ext_set ?_ (by first | omega | (simp <;> omega)) _)))).mono ?_); rintro e w1 ⟨rfl, hx1⟩; have m0 := (hx1.cells (w.heap.size) 0 (by simp <;> omega)).trans (show _ = some (.slice a1 n1 c1) by go_simp); have m1 := (hx1.cells (w.heap.size) 1 (by simp <;> omega)).trans (show _ = some (.int .i64 c) by go_simp); have r0 := (hx1.cells (w.heap.size + 1) 0 (by simp <;> omega)).trans (show _ = some (.slice none 0 0) by go_simp); have rf0 := (hx1.frz (w.heap.size + 1) 0 (by simp <;> omega)).trans (show _ = false by go_simp); have r1 := (hx1.cells (w.heap.size + 1) 1 (by simp <;> omega)).trans (show _ = some (.int .i64 0) by go_simp); have rf1 := (hx1.frz (w.heap.size + 1) 1 (by simp <;> omega)).trans (show _ = false by go_simp); have HX1 := Lib.hid hx1; have hs1 := hx1.size; simp at hs1; clear hx1))
        | (go_at_call 69; go_must ((with_reducible refine (HA.out _ (by repeat (first | (with_reducible exact ext_refl _) | (with_reducible refine ext_drew ?_) | (with_reducible refine ext_drewN ?_ _) | (with_reducible refine ext_alloc ?_ _) | (with_reducible refine ext_set ?_ (by first | omega | (simp <;> omega)) _) | (with_reducible refine ext_call ?_ HX1.out)))).mono ?_); rintro e w2 ⟨cs2, rfl, hm2, hx2⟩; have HM2 := Lib.hid (omk_mk hm2); obtain ⟨v2, rfl, hv2, _⟩ := hm2; obtain ⟨a3, n3, c3, rfl⟩ := osl_slice hv2; have hx3 := ext_call HX1.out hx2; have q0 := (hx3.cells (w.heap.size + 1) 0 (by simp <;> omega)).trans (show _ = some (.slice none 0 0) by go_simp); have qf0 := (hx3.frz (w.heap.size + 1) 0 (by simp <;> omega)).trans (show _ = false by go_simp); have q1 := (hx3.cells (w.heap.size + 1) 1 (by simp <;> omega)).trans (show _ = some (.int .i64 0) by go_simp); have qf1 := (hx3.frz (w.heap.size + 1) 1 (by simp <;> omega)).trans (show _ = false by go_simp); have HX3 := Lib.hid hx3; have hs2 := hx2.size; (try simp at hs2); clear hx2 hx3 hv2 m0 m1 r0 rf0 r1 rf1))
        | (go_at_call 54; go_must ((with_reducible refine (checkMark_any (gMk.ext HM2.out (ext_alloc (ext_refl _) _))).mono ?_); rintro e w3 ⟨rfl, hx4⟩; have b0 := (hx4.cells w2.heap.size 0 (by simp <;> omega)).trans (show _ = some (.slice a3 n3 c3) by go_simp); have b1 := (hx4.cells w2.heap.size 1 (by simp <;> omega)).trans (show _ = some (.int .i64 (c + k)) by go_simp); have hx5 := ext_call (ext_call HX3.out (ext_alloc (ext_refl _) _)) hx4; clear q0 qf0 q1 qf1; have q0 := (hx5.cells (w.heap.size + 1) 0 (by simp <;> omega)).trans (show _ = some (.slice none 0 0) by go_simp); have qf0 := (hx5.frz (w.heap.size + 1) 0 (by simp <;> omega)).trans (show _ = false by go_simp); have q1 := (hx5.cells (w.heap.size + 1) 1 (by simp <;> omega)).trans (show _ = some (.int .i64 0) by go_simp); have qf1 := (hx5.frz (w.heap.size + 1) 1 (by simp <;> omega)).trans (show _ = false by go_simp); have HX5 := Lib.hid hx5; have HX4 := Lib.hid hx4; have hs3 := hx4.size; (try simp at hs3); clear hx4 hx5))
        | (go_at_call 30; refine (between_any _ _ _ _).mono ?_; rintro e w9 ⟨rfl, rfl⟩))
    all_goals refine bodyPost_ret (v := .tuple #[.agg #[.slice none 0 0, .int .i64 0], .int .i64 (checkM (l, c))]) (by simp [results, Try.results55, go_sem, r0, r1, rf0, rf1, hs1]) rfl ⟨[.slice none 0 0, .int .i64 0], by rw [HE.out], by rw [HV.out]; exact ⟨_, rfl, RSl.nil_ (Nat.zero_le _), i64_small (by simp) (by simp)⟩, (by repeat (first | (with_reducible exact ext_refl _) | (with_reducible refine ext_drew ?_) | (with_reducible refine ext_drewN ?_ _) | (with_reducible refine ext_alloc ?_ _) | (with_reducible refine ext_set ?_ (by first | omega | (simp <;> omega)) _) | (with_reducible refine ext_call ?_ HX1.out)))⟩
end Go.Proofs.Ytiladkinndgeaaa
/- What is wrong with a run. -/
namespace Go.Proofs.Ytiladkinndgeaaa
open Go Go.RowKit Go.BigFrame Cp

theorem tx_bytes {v : Value} {t : Tx} (h : RTx v t) : ∃ s : ByteArray, v = .string s ∧ t = s.data.toList ∧ s.size ≤ 140737488351232 := by
  obtain ⟨rfl, h⟩ := h
  exact ⟨⟨t.toArray⟩, rfl, by simp, by simpa [ByteArray.size] using h⟩
theorem tx_max {n : Nat} (h : n ≤ 140737488351232) : n ≤ maxLen := by unfold maxLen; omega
theorem bytes_nil {s : ByteArray} (h : s.size = 0) : s.data.toList = [] := by
  exact List.length_eq_zero_iff.1 (by simpa using h)
theorem bytes_cons {s : ByteArray} (h : ¬ s.size = 0) : s.data.toList ≠ [] := by
  intro e
  apply h
  have : s.data.toList.length = 0 := by rw [e]; rfl
  simpa using this
theorem empty_yes {s : ByteArray} (h : s.size = 0) : s.toList.isEmpty = true := by rw [ByteArray.toList_eq, bytes_nil h]; rfl
theorem empty_no {s : ByteArray} (h : ¬ s.size = 0) : s.toList.isEmpty = false := by
  rw [ByteArray.toList_eq]
  cases hl : s.data.toList with
  | nil => exact absurd hl (bytes_cons h)
  | cons _ _ => rfl
section
variable {m : Mk} {s : ByteArray}
theorem checkR_mark (h : ¬ checkM m = 0) : checkR (m, s.data.toList) = checkM m := by unfold checkR; rw [if_pos h]
theorem checkR_nil (h : checkM m = 0) (h2 : s.size = 0) : checkR (m, s.data.toList) = 1 := by unfold checkR; rw [if_neg (by simpa using h), if_pos (bytes_nil h2)]
theorem checkR_many (h : checkM m = 0) (h2 : ¬ s.size = 0) (h3 : 60 < s.size) : checkR (m, s.data.toList) = 2 := by unfold checkR; rw [if_neg (by simpa using h), if_neg (bytes_cons h2), if_pos (by simpa using h3)]
theorem checkR_sign (h : checkM m = 0) (h2 : ¬ s.size = 0) (h3 : ¬ 60 < s.size) (h4 : signsB s.data.toList = false) : checkR (m, s.data.toList) = 3 := by
  unfold checkR; rw [if_neg (by simpa using h), if_neg (bytes_cons h2), if_neg (by simpa using h3), if_pos h4]
theorem checkR_next (h : checkM m = 0) (h2 : ¬ s.size = 0) (h3 : ¬ 60 < s.size) (h4 : signsB s.data.toList = true) : checkR (m, s.data.toList) = (nextM m ((s.size : Int) - 1)).2 := by
  unfold checkR; rw [if_neg (by simpa using h), if_neg (bytes_cons h2), if_neg (by simpa using h3), if_neg (by rw [h4]; simp)]
  have : s.data.toList.length = s.size := by simp
  simp only [this]
end
theorem rrn_of {F : Nat → Prop} {w : World} {v : Value} {l : List Stp} {c : Int} {s : Value} {t : Tx} (h : RSl RStp 2 F w v l) (i : I64 c) (k : RTx s t) : RRn F w [v, .int .i64 c, s] ((l, c), t) := ⟨v, s, rfl, h, i, k⟩

set_option maxRecDepth 100000 in
set_option maxHeartbeats 4000000 in
theorem checkRunP_any {F : Nat → Prop} {w : World} {cs : List Value} {r : Rn} (h : RRn F w cs r) :
    Calls Try.prog 60 #[.agg cs.toArray] w fun e w' => e = .returned (.int .i64 (checkR r)) ∧ Ext w w' := by
  obtain ⟨v, u, rfl, hl, hi, hu⟩ := h
  obtain ⟨⟨l, c⟩, t⟩ := r
  simp only at hl hi hu ⊢
  obtain ⟨s, rfl, rfl, hs⟩ := tx_bytes hu
  have HC := Lib.hid (fun (W : World) (hx : Ext w W) => check_any (rmk_of' (hl.ext gStp hx) hi))
  have HN := Lib.hid (fun (W : World) (hx : Ext w W) => next_any (k := (s.size : Int) - 1) (rmk_of' (hl.ext gStp hx) hi))
  have HG := Lib.hid (fun (W : World) => signs_any s W (tx_max hs))
  obtain ⟨a1, n1, c1, rfl⟩ := hl.slice
  clear hl hi hu
  by_cases h0 : checkM (l, c) = 0
  · have H0 := Lib.hid h0
    rw [h0] at HC
    clear h0
    by_cases h1 : s.size = 0
    · rw [checkR_nil H0.out h1]
      have t1 : s.toList.isEmpty = true := empty_yes h1
      clear h1
      go_enter Try.func60, Try.ntmps60
      go_wp2_with (first
        | (go_at_call 62; go_must ((with_reducible refine (HC.out _ extA).mono ?_); rintro e w1 ⟨rfl, hx1⟩; have hz1 := hx1.size; (try simp at hz1); have hb1_0 : w.heap.size < w1.heap.size := (by omega); have p0 := (hx1.cells (w.heap.size) (0) (by first | omega | (simp <;> omega))).trans (show _ = some (.slice a1 n1 c1) by first | (with_reducible assumption) | go_simp); have p1 := (hx1.cells (w.heap.size) (1) (by first | omega | (simp <;> omega))).trans (show _ = some (.int .i64 c) by first | (with_reducible assumption) | go_simp); have p2 := (hx1.cells (w.heap.size) (2) (by first | omega | (simp <;> omega))).trans (show _ = some (.string s) by first | (with_reducible assumption) | go_simp)))
        | (go_at_call 71; go_must ((with_reducible refine (HG.out _).mono ?_); rintro e w' ⟨rfl, rfl⟩))
        | (go_at_call 63; go_must ((with_reducible refine (HN.out _ extA).mono ?_); rintro e w3 ⟨cs3, rfl, hm3, hx3⟩)))
      go_ret
      exact ⟨rfl, extA⟩
    have t1 : s.toList.isEmpty = false := empty_no h1
    have hp : 0 < s.size := by omega
    by_cases h3 : 60 < s.size
    · rw [checkR_many H0.out h1 h3]
      clear h1
      go_enter Try.func60, Try.ntmps60
      go_wp2_with (first
        | (go_at_call 62; go_must ((with_reducible refine (HC.out _ extA).mono ?_); rintro e w1 ⟨rfl, hx1⟩; have hz1 := hx1.size; (try simp at hz1); have hb1_0 : w.heap.size < w1.heap.size := (by omega); have p0 := (hx1.cells (w.heap.size) (0) (by first | omega | (simp <;> omega))).trans (show _ = some (.slice a1 n1 c1) by first | (with_reducible assumption) | go_simp); have p1 := (hx1.cells (w.heap.size) (1) (by first | omega | (simp <;> omega))).trans (show _ = some (.int .i64 c) by first | (with_reducible assumption) | go_simp); have p2 := (hx1.cells (w.heap.size) (2) (by first | omega | (simp <;> omega))).trans (show _ = some (.string s) by first | (with_reducible assumption) | go_simp)))
        | (go_at_call 71; go_must ((with_reducible refine (HG.out _).mono ?_); rintro e w' ⟨rfl, rfl⟩))
        | (go_at_call 63; go_must ((with_reducible refine (HN.out _ extA).mono ?_); rintro e w3 ⟨cs3, rfl, hm3, hx3⟩)))
      go_ret
      exact ⟨rfl, extA⟩
    cases h4 : signsB s.data.toList with
    | false =>
      rw [checkR_sign H0.out h1 h3 h4]
      rw [h4] at HG
      clear h1
      go_enter Try.func60, Try.ntmps60
      go_wp2_with (first
        | (go_at_call 62; go_must ((with_reducible refine (HC.out _ extA).mono ?_); rintro e w1 ⟨rfl, hx1⟩; have hz1 := hx1.size; (try simp at hz1); have hb1_0 : w.heap.size < w1.heap.size := (by omega); have p0 := (hx1.cells (w.heap.size) (0) (by first | omega | (simp <;> omega))).trans (show _ = some (.slice a1 n1 c1) by first | (with_reducible assumption) | go_simp); have p1 := (hx1.cells (w.heap.size) (1) (by first | omega | (simp <;> omega))).trans (show _ = some (.int .i64 c) by first | (with_reducible assumption) | go_simp); have p2 := (hx1.cells (w.heap.size) (2) (by first | omega | (simp <;> omega))).trans (show _ = some (.string s) by first | (with_reducible assumption) | go_simp)))
        | (go_at_call 71; go_must ((with_reducible refine (HG.out _).mono ?_); rintro e w' ⟨rfl, rfl⟩))
        | (go_at_call 63; go_must ((with_reducible refine (HN.out _ extA).mono ?_); rintro e w3 ⟨cs3, rfl, hm3, hx3⟩)))
      go_ret
      exact ⟨rfl, extA⟩
    | true =>
      rw [checkR_next H0.out h1 h3 h4]
      rw [h4] at HG
      clear h1
      generalize nextM (l, c) ((s.size : Int) - 1) = nx at *
      obtain ⟨nm, er⟩ := nx
      simp only at HN ⊢
      go_enter Try.func60, Try.ntmps60
      go_wp2_with (first
        | (go_at_call 62; go_must ((with_reducible refine (HC.out _ extA).mono ?_); rintro e w1 ⟨rfl, hx1⟩; have hz1 := hx1.size; (try simp at hz1); have hb1_0 : w.heap.size < w1.heap.size := (by omega); have p0 := (hx1.cells (w.heap.size) (0) (by first | omega | (simp <;> omega))).trans (show _ = some (.slice a1 n1 c1) by first | (with_reducible assumption) | go_simp); have p1 := (hx1.cells (w.heap.size) (1) (by first | omega | (simp <;> omega))).trans (show _ = some (.int .i64 c) by first | (with_reducible assumption) | go_simp); have p2 := (hx1.cells (w.heap.size) (2) (by first | omega | (simp <;> omega))).trans (show _ = some (.string s) by first | (with_reducible assumption) | go_simp)))
        | (go_at_call 71; go_must ((with_reducible refine (HG.out _).mono ?_); rintro e w' ⟨rfl, rfl⟩))
        | (go_at_call 63; go_must ((with_reducible refine (HN.out _ extA).mono ?_); rintro e w3 ⟨cs3, rfl, hm3, hx3⟩)))
      go_ret
      exact ⟨rfl, extA⟩
  · rw [checkR_mark h0]
    have t1 : (checkM (l, c) != 0) = true := by simpa using h0
    generalize checkM (l, c) = r at *
    clear h0
    go_enter Try.func60, Try.ntmps60
    go_wp2_with (first
      | (go_at_call 62; go_must ((with_reducible refine (HC.out _ extA).mono ?_); rintro e w1 ⟨rfl, hx1⟩; have hz1 := hx1.size; (try simp at hz1); have hb1_0 : w.heap.size < w1.heap.size := (by omega); have p0 := (hx1.cells (w.heap.size) (0) (by first | omega | (simp <;> omega))).trans (show _ = some (.slice a1 n1 c1) by first | (with_reducible assumption) | go_simp); have p1 := (hx1.cells (w.heap.size) (1) (by first | omega | (simp <;> omega))).trans (show _ = some (.int .i64 c) by first | (with_reducible assumption) | go_simp); have p2 := (hx1.cells (w.heap.size) (2) (by first | omega | (simp <;> omega))).trans (show _ = some (.string s) by first | (with_reducible assumption) | go_simp)))
      | (go_at_call 71; go_must ((with_reducible refine (HG.out _).mono ?_); rintro e w' ⟨rfl, rfl⟩))
      | (go_at_call 63; go_must ((with_reducible refine (HN.out _ extA).mono ?_); rintro e w3 ⟨cs3, rfl, hm3, hx3⟩)))
    go_ret
    exact ⟨rfl, extA⟩

set_option maxRecDepth 100000 in
set_option maxHeartbeats 4000000 in
theorem checkRun_any {F : Nat → Prop} {w : World} {cs : List Value} {r : Rn} (h : RRn F w cs r) :
    Calls Try.prog 52 #[.agg cs.toArray] w fun e w' => e = .returned (.int .i64 (checkR r)) ∧ Ext w w' := by
  obtain ⟨v, u, rfl, hl, hi, hu⟩ := h
  obtain ⟨⟨l, c⟩, t⟩ := r
  simp only at hl hi hu ⊢
  obtain ⟨s, rfl, rfl, hs⟩ := tx_bytes hu
  have HC := Lib.hid (fun (W : World) (hx : Ext w W) => checkMark_any (rmk_of' (hl.ext gStp hx) hi))
  have HN := Lib.hid (fun (W : World) (hx : Ext w W) => nextOf_any (k := (s.size : Int) - 1) (rmk_of' (hl.ext gStp hx) hi))
  have HG := Lib.hid (fun (W : World) => areSigns_any s W (tx_max hs))
  obtain ⟨a1, n1, c1, rfl⟩ := hl.slice
  clear hl hi hu
  by_cases h0 : checkM (l, c) = 0
  · have H0 := Lib.hid h0
    rw [h0] at HC
    clear h0
    by_cases h1 : s.size = 0
    · rw [checkR_nil H0.out h1]
      have t1 : s.toList.isEmpty = true := empty_yes h1
      clear h1
      go_enter Try.func52, Try.ntmps52
      go_wp2_with (first
        | (go_at_call 54; go_must ((with_reducible refine (HC.out _ extA).mono ?_); rintro e w1 ⟨rfl, hx1⟩; have hz1 := hx1.size; (try simp at hz1); have hb1_0 : w.heap.size < w1.heap.size := (by omega); have p0 := (hx1.cells (w.heap.size) (0) (by first | omega | (simp <;> omega))).trans (show _ = some (.slice a1 n1 c1) by first | (with_reducible assumption) | go_simp); have p1 := (hx1.cells (w.heap.size) (1) (by first | omega | (simp <;> omega))).trans (show _ = some (.int .i64 c) by first | (with_reducible assumption) | go_simp); have p2 := (hx1.cells (w.heap.size) (2) (by first | omega | (simp <;> omega))).trans (show _ = some (.string s) by first | (with_reducible assumption) | go_simp)))
        | (go_at_call 68; go_must ((with_reducible refine (HG.out _).mono ?_); rintro e w' ⟨rfl, rfl⟩))
        | (go_at_call 55; go_must ((with_reducible refine (HN.out _ extA).mono ?_); rintro e w3 ⟨cs3, rfl, hm3, hx3⟩)))
      go_ret
      exact ⟨rfl, extA⟩
    have t1 : s.toList.isEmpty = false := empty_no h1
    have hp : 0 < s.size := by omega
    by_cases h3 : 60 < s.size
    · rw [checkR_many H0.out h1 h3]
      clear h1
      go_enter Try.func52, Try.ntmps52
      go_wp2_with (first
        | (go_at_call 54; go_must ((with_reducible refine (HC.out _ extA).mono ?_); rintro e w1 ⟨rfl, hx1⟩; have hz1 := hx1.size; (try simp at hz1); have hb1_0 : w.heap.size < w1.heap.size := (by omega); have p0 := (hx1.cells (w.heap.size) (0) (by first | omega | (simp <;> omega))).trans (show _ = some (.slice a1 n1 c1) by first | (with_reducible assumption) | go_simp); have p1 := (hx1.cells (w.heap.size) (1) (by first | omega | (simp <;> omega))).trans (show _ = some (.int .i64 c) by first | (with_reducible assumption) | go_simp); have p2 := (hx1.cells (w.heap.size) (2) (by first | omega | (simp <;> omega))).trans (show _ = some (.string s) by first | (with_reducible assumption) | go_simp)))
        | (go_at_call 68; go_must ((with_reducible refine (HG.out _).mono ?_); rintro e w' ⟨rfl, rfl⟩))
        | (go_at_call 55; go_must ((with_reducible refine (HN.out _ extA).mono ?_); rintro e w3 ⟨cs3, rfl, hm3, hx3⟩)))
      go_ret
      exact ⟨rfl, extA⟩
    cases h4 : signsB s.data.toList with
    | false =>
      rw [checkR_sign H0.out h1 h3 h4]
      rw [h4] at HG
      clear h1
      go_enter Try.func52, Try.ntmps52
      go_wp2_with (first
        | (go_at_call 54; go_must ((with_reducible refine (HC.out _ extA).mono ?_); rintro e w1 ⟨rfl, hx1⟩; have hz1 := hx1.size; (try simp at hz1); have hb1_0 : w.heap.size < w1.heap.size := (by omega); have p0 := (hx1.cells (w.heap.size) (0) (by first | omega | (simp <;> omega))).trans (show _ = some (.slice a1 n1 c1) by first | (with_reducible assumption) | go_simp); have p1 := (hx1.cells (w.heap.size) (1) (by first | omega | (simp <;> omega))).trans (show _ = some (.int .i64 c) by first | (with_reducible assumption) | go_simp); have p2 := (hx1.cells (w.heap.size) (2) (by first | omega | (simp <;> omega))).trans (show _ = some (.string s) by first | (with_reducible assumption) | go_simp)))
        | (go_at_call 68; go_must ((with_reducible refine (HG.out _).mono ?_); rintro e w' ⟨rfl, rfl⟩))
        | (go_at_call 55; go_must ((with_reducible refine (HN.out _ extA).mono ?_); rintro e w3 ⟨cs3, rfl, hm3, hx3⟩)))
      go_ret
      exact ⟨rfl, extA⟩
    | true =>
      rw [checkR_next H0.out h1 h3 h4]
      rw [h4] at HG
      clear h1
      generalize nextM (l, c) ((s.size : Int) - 1) = nx at *
      obtain ⟨nm, er⟩ := nx
      simp only at HN ⊢
      go_enter Try.func52, Try.ntmps52
      go_wp2_with (first
        | (go_at_call 54; go_must ((with_reducible refine (HC.out _ extA).mono ?_); rintro e w1 ⟨rfl, hx1⟩; have hz1 := hx1.size; (try simp at hz1); have hb1_0 : w.heap.size < w1.heap.size := (by omega); have p0 := (hx1.cells (w.heap.size) (0) (by first | omega | (simp <;> omega))).trans (show _ = some (.slice a1 n1 c1) by first | (with_reducible assumption) | go_simp); have p1 := (hx1.cells (w.heap.size) (1) (by first | omega | (simp <;> omega))).trans (show _ = some (.int .i64 c) by first | (with_reducible assumption) | go_simp); have p2 := (hx1.cells (w.heap.size) (2) (by first | omega | (simp <;> omega))).trans (show _ = some (.string s) by first | (with_reducible assumption) | go_simp)))
        | (go_at_call 68; go_must ((with_reducible refine (HG.out _).mono ?_); rintro e w' ⟨rfl, rfl⟩))
        | (go_at_call 55; go_must ((with_reducible refine (HN.out _ extA).mono ?_); rintro e w3 ⟨cs3, rfl, hm3, hx3⟩)))
      go_ret
      exact ⟨rfl, extA⟩
  · rw [checkR_mark h0]
    have t1 : (checkM (l, c) != 0) = true := by simpa using h0
    generalize checkM (l, c) = r at *
    clear h0
    go_enter Try.func52, Try.ntmps52
    go_wp2_with (first
      | (go_at_call 54; go_must ((with_reducible refine (HC.out _ extA).mono ?_); rintro e w1 ⟨rfl, hx1⟩; have hz1 := hx1.size; (try simp at hz1); have hb1_0 : w.heap.size < w1.heap.size := (by omega); have p0 := (hx1.cells (w.heap.size) (0) (by first | omega | (simp <;> omega))).trans (show _ = some (.slice a1 n1 c1) by first | (with_reducible assumption) | go_simp); have p1 := (hx1.cells (w.heap.size) (1) (by first | omega | (simp <;> omega))).trans (show _ = some (.int .i64 c) by first | (with_reducible assumption) | go_simp); have p2 := (hx1.cells (w.heap.size) (2) (by first | omega | (simp <;> omega))).trans (show _ = some (.string s) by first | (with_reducible assumption) | go_simp)))
      | (go_at_call 68; go_must ((with_reducible refine (HG.out _).mono ?_); rintro e w' ⟨rfl, rfl⟩))
      | (go_at_call 55; go_must ((with_reducible refine (HN.out _ extA).mono ?_); rintro e w3 ⟨cs3, rfl, hm3, hx3⟩)))
    go_ret
    exact ⟨rfl, extA⟩
end Go.Proofs.Ytiladkinndgeaaa
/- The same runs; does an atom go on a run. -/
namespace Go.Proofs.Ytiladkinndgeaaa
open Go Go.RowKit Go.BigFrame Cp

theorem rtx_s {s : ByteArray} (h : s.size ≤ 140737488351232) : RTx (.string s) s.data.toList := ⟨by congr, by simpa using h⟩
theorem bytes_eq {s t : ByteArray} (h : s.data.toList = t.data.toList) : s = t := by
  cases s; cases t
  congr
  exact Array.ext' h
set_option maxRecDepth 100000 in
set_option maxHeartbeats 4000000 in
theorem sameRun_any {F G : Nat → Prop} {w : World} {cs ds : List Value} {r : Rn} (h : RRn F w cs r) (k : RRn G w ds r) :
    Calls Try.prog 76 #[.agg cs.toArray, .agg ds.toArray] w fun e w' => e = .returned (.bool true) ∧ Ext w w' := by
  obtain ⟨v, x, rfl, hl, hi, hx⟩ := h
  obtain ⟨u, y, rfl, hm, hj, hy⟩ := k
  obtain ⟨⟨l, c⟩, t⟩ := r
  simp only at hl hi hx hm hj hy ⊢
  obtain ⟨s, rfl, rfl, hs⟩ := tx_bytes hx
  obtain ⟨s2, rfl, e2, hs2⟩ := tx_bytes hy
  obtain rfl := bytes_eq e2
  have HS := Lib.hid (fun (W : World) (hx : Ext w W) => same_same (rmk_of' (hl.ext gStp hx) hi) (rmk_of' (hm.ext gStp hx) hj))
  obtain ⟨a1, n1, c1, rfl⟩ := hl.slice
  obtain ⟨a2, n2, c2, rfl⟩ := hm.slice
  clear hl hi hx hm hj hy e2
  go_enter Try.func76, Try.ntmps76
  go_wp2_with (go_at_call 75; go_must ((with_reducible refine (HS.out _ extA).mono ?_); rintro e w1 ⟨rfl, hx1⟩))
  go_ret
  exact ⟨rfl, extA⟩
end Go.Proofs.Ytiladkinndgeaaa
/- The atoms of a run, by the document. -/
namespace Go.Proofs.Ytiladkinndgeaaa
open Go Go.RowKit Go.BigFrame Cp

theorem checkR_parts {r : Rn} (h : checkR r = 0) : checkM r.1 = 0 ∧ r.2 ≠ [] ∧ r.2.length ≤ 60 ∧ signsB r.2 = true ∧ (nextM r.1 (r.2.length - 1)).2 = 0 := by
  unfold checkR at h
  by_cases h1 : checkM r.1 ≠ 0
  · rw [if_pos h1] at h; exact absurd h h1
  rw [if_neg h1] at h
  by_cases h2 : r.2 = []
  · rw [if_pos h2] at h; omega
  rw [if_neg h2] at h
  by_cases h3 : 60 < r.2.length
  · rw [if_pos h3] at h; omega
  rw [if_neg h3] at h
  by_cases h4 : signsB r.2 = false
  · rw [if_pos h4] at h; omega
  rw [if_neg h4] at h
  exact ⟨by omega, h2, by omega, by simpa using h4, h⟩
end Go.Proofs.Ytiladkinndgeaaa
/- Atoms of one's own. -/
namespace Go.Proofs.Ytiladkinndgeaaa
open Go Go.RowKit Go.BigFrame Cp

end Go.Proofs.Ytiladkinndgeaaa
/- States of one's own: nothing of them is shared. -/
namespace Go.Proofs.Ytiladkinndgeaaa
open Go Go.RowKit Go.BigFrame Cp

end Go.Proofs.Ytiladkinndgeaaa
/- Does an atom go on a run. -/
namespace Go.Proofs.Ytiladkinndgeaaa
open Go Go.RowKit Go.BigFrame Cp

end Go.Proofs.Ytiladkinndgeaaa
/- Runs of atoms, by the program. -/
namespace Go.Proofs.Ytiladkinndgeaaa
open Go Go.RowKit Go.BigFrame Cp

end Go.Proofs.Ytiladkinndgeaaa
