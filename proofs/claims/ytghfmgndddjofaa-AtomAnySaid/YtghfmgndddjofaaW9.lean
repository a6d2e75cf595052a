/- The mark so many behind one, by the reference. -/
import Derived.Test.YtghfmgndddjofaaW8
import Derived.IntWalk
set_option linter.unusedVariables false
set_option linter.unusedSimpArgs false
namespace Go.Proofs.Ytghfmgndddjofaa
open Go Go.RowKit Cp

set_option maxRecDepth 100000 in
set_option maxHeartbeats 2000000 in
theorem afterOf_any {F : Nat → Prop} {w : World} {cs : List Value} {m : Mk} {k : Int} (h : RMk F w cs m) (hsz : m.1.length ≤ 8000000000000) (hne : m.1 ≠ [])
    (hd : 0 ≤ lastDigit m.1 ∧ lastDigit m.1 ≤ 1000) (hc : 0 ≤ m.2 ∧ m.2 ≤ 20000) (hk : 0 ≤ k ∧ k ≤ 1000) :
    Calls Try.prog 132 #[.agg cs.toArray, .int .i64 k] w (IsMark (afterM m k) w) := by
  obtain ⟨v, rfl, hl, hi64⟩ := h
  obtain ⟨l, c⟩ := m
  simp only at hl hsz hne hd hc ⊢
  obtain ⟨a1, n1, c1, rfl⟩ := hl.slice
  obtain ⟨rfl, _, _⟩ := hl.len
  have HL := Lib.hid (fun (W : World) (hx : Ext w W) => (hl.more gStp (G := fun k => k < w.heap.size) (fun _ _ hk => hk)).ext gStp hx)
  clear hl hi64
  have hlt : l.length - 1 < l.length := by
    have := List.length_pos_iff.2 hne
    omega
  obtain ⟨c0, c2⟩ := hc
  obtain ⟨k0, k2⟩ := hk
  have HD := Lib.hid hd
  clear hd
  obtain ⟨i0, hi, hz0, hz1, hz2⟩ := info_parts info_step
  have HI := Lib.hid hi
  have HZ0 := Lib.hid hz0
  have HZ1 := Lib.hid hz1
  have HZ2 := Lib.hid hz2
  clear hi hz0 hz1 hz2
  go_enter Try.func132, Try.ntmps132
  have hwr : IntKind.i64.wrap (c + k) = c + k := IntWalk.i64_in _ (by omega)
  go_wp2_with fail
  go_region_held3 (fun W => W.cell? ⟨w.heap.size, 0, none⟩ = some (.slice a1 l.length c1) ∧ W.cell? ⟨w.heap.size, 1, none⟩ = some (.int .i64 c))
    (first | go_keep | ((try dsimp only); (repeat' apply And.intro); all_goals first | go_keep | (go_simp; done) | (rw [hxg.cells _ _ (by simp <;> omega)]; go_simp)))
    (first
      | ((refine step_appAll gStp rfl (.tmp 6) (.tmp 8) 73 rfl (w.heap.size + 2) 141 i0 _ 2 16 Try.underlying73 HI.out HZ0.out HZ1.out HZ2.out rfl (by omega) (F := fun k => k < w.heap.size) (G := fun k => k < w.heap.size) (.slice (some ⟨w.heap.size + 1 + 1, 0, none⟩) 0 0) [] rfl ?_ _ l rfl (HL.out _ (by repeat (first | exact ext_refl _ | refine ext_drew ?_ | refine ext_drewN ?_ _ | refine ext_alloc ?_ _ | refine ext_set ?_ (by simp <;> omega) _))) one_stp (fun k hk _ => ⟨hk, ne_own (by first | omega | (simp <;> omega) | (simp only [maxLen, List.length_nil] <;> omega))⟩) (by first | omega | (simp <;> omega) | (simp only [maxLen, List.length_nil] <;> omega)) (by first | omega | (simp <;> omega) | (simp only [maxLen, List.length_nil] <;> omega)) (by first | omega | (simp <;> omega) | (simp only [maxLen, List.length_nil] <;> omega)) ?_; (· first | exact osl_ext gStp (osl_newAt (by first | omega | (simp <;> omega) | (simp only [maxLen, List.length_nil] <;> omega)) (by first | omega | (simp <;> omega) | (simp only [maxLen, List.length_nil] <;> omega))) (ext_drew (ext_refl _)) | exact osl_ext gStp (osl_newAt (by first | omega | (simp <;> omega) | (simp only [maxLen, List.length_nil] <;> omega)) (by first | omega | (simp <;> omega) | (simp only [maxLen, List.length_nil] <;> omega))) (ext_drew (ext_alloc (ext_refl _) _))); intro v1 w1 hown1 hg1 hat1; have hxg : Ext ((w.alloc (.cells #[.slice a1 l.length c1, .int .i64 c] 75)).alloc (.cells #[.slice none 0 0, .int .i64 0] 75)) w1 := ext_grow (by repeat (first | exact ext_refl _ | refine ext_drew ?_ | refine ext_drewN ?_ _ | refine ext_alloc ?_ _ | refine ext_set ?_ (by simp <;> omega) _)) hg1 (fun k hk => by have := own_eq hk; simp <;> omega); have hs1 : w.heap.size + 1 < w1.heap.size := (by have := hxg.size; simp at this; omega); have hne1 : ¬ w1.heap.size = w.heap.size := (by omega); have hne2 : ¬ w.heap.size = w1.heap.size := (by omega); have zb0 := (hxg.cells w.heap.size 0 (by simp <;> omega)).trans (show _ = some (.slice a1 l.length c1) by go_simp); have zb1 := (hxg.cells w.heap.size 1 (by simp <;> omega)).trans (show _ = some (.int .i64 c) by go_simp); have hq1 := grown_cells hg1; have hq2 := grown_frz hg1; simp only [List.nil_append] at hown1; obtain ⟨a3, n3, c3, rfl⟩ := osl_slice hown1; obtain ⟨g3, s3, cs2, rfl, rfl, hg3, hg3', e3, _, hr3, hs3, hf3⟩ := osl_at hown1 hlt; obtain ⟨x3, y3⟩ := s3; obtain ⟨rfl, ix, iy⟩ := hs3; have z6 := hr3 0 _ rfl; have z7 := hr3 1 _ rfl; have z8 := hf3 ((l.length - 1) * 2); simp only [Nat.add_zero] at z6 z7; have hd1 : 0 ≤ x3 := (lastDigit_at e3) ▸ HD.out.1; have hd2 : x3 ≤ 1000 := (lastDigit_at e3) ▸ HD.out.2; have HV1 := Lib.hid hown1; have HE3 := Lib.hid e3; have HG1 := Lib.hid hg1; have y0 := (hxg.cells (w.heap.size + 1) 0 (by simp <;> omega)).trans (show _ = some (.slice none 0 0) by go_simp); have y1 := (hxg.cells (w.heap.size + 1) 1 (by simp <;> omega)).trans (show _ = some (.int .i64 0) by go_simp); have y2 := (hxg.frz (w.heap.size + 1) 0 (by simp <;> omega)).trans (show _ = false by go_simp); have y3f := (hxg.frz (w.heap.size + 1) 1 (by simp <;> omega)).trans (show _ = false by go_simp); have hn1 : ¬ g3 = w.heap.size + 1 := (by omega); have hn2 : ¬ w.heap.size + 1 = g3 := (by omega); have hn3 : ¬ g3 = w1.heap.size := (by omega); simp [Value.ownBlock] at hat1; (try have hn5 : ¬ g3 = w.heap.size + 1 + 1 + 1 := (by omega)); (try have hn6 : ¬ w.heap.size + 1 + 1 + 1 = g3 := (by omega)); clear hown1 e3 hr3 hf3 hg1 hat1))
      | ((refine step_appAll gStp rfl (.tmp 6) (.tmp 8) 73 rfl (w.heap.size + 2) 141 i0 _ 2 16 Try.underlying73 HI.out HZ0.out HZ1.out HZ2.out rfl (by omega) (F := fun k => k < w.heap.size) (G := fun k => k < w.heap.size) (.slice (some ⟨w.heap.size + 1 + 1 + 1, 0, none⟩) 0 0) [] rfl ?_ _ l rfl (HL.out _ (by repeat (first | exact ext_refl _ | refine ext_drew ?_ | refine ext_drewN ?_ _ | refine ext_alloc ?_ _ | refine ext_set ?_ (by simp <;> omega) _))) one_stp (fun k hk _ => ⟨hk, ne_own (by first | omega | (simp <;> omega) | (simp only [maxLen, List.length_nil] <;> omega))⟩) (by first | omega | (simp <;> omega) | (simp only [maxLen, List.length_nil] <;> omega)) (by first | omega | (simp <;> omega) | (simp only [maxLen, List.length_nil] <;> omega)) (by first | omega | (simp <;> omega) | (simp only [maxLen, List.length_nil] <;> omega)) ?_; (· first | exact osl_ext gStp (osl_newAt (by first | omega | (simp <;> omega) | (simp only [maxLen, List.length_nil] <;> omega)) (by first | omega | (simp <;> omega) | (simp only [maxLen, List.length_nil] <;> omega))) (ext_drew (ext_refl _))); intro v1 w1 hown1 hg1 hat1; have hxg : Ext ((w.alloc (.cells #[.slice a1 l.length c1, .int .i64 c] 75)).alloc (.cells #[.slice none 0 0, .int .i64 0] 75)) w1 := ext_grow (by repeat (first | exact ext_refl _ | refine ext_drew ?_ | refine ext_drewN ?_ _ | refine ext_alloc ?_ _ | refine ext_set ?_ (by simp <;> omega) _)) hg1 (fun k hk => by have := own_eq hk; simp <;> omega); have hs1 : w.heap.size + 1 < w1.heap.size := (by have := hxg.size; simp at this; omega); have hne1 : ¬ w1.heap.size = w.heap.size := (by omega); have hne2 : ¬ w.heap.size = w1.heap.size := (by omega); have zb0 := (hxg.cells w.heap.size 0 (by simp <;> omega)).trans (show _ = some (.slice a1 l.length c1) by go_simp); have zb1 := (hxg.cells w.heap.size 1 (by simp <;> omega)).trans (show _ = some (.int .i64 c) by go_simp); have hq1 := grown_cells hg1; have hq2 := grown_frz hg1; simp only [List.nil_append] at hown1; obtain ⟨a3, n3, c3, rfl⟩ := osl_slice hown1; obtain ⟨g3, s3, cs2, rfl, rfl, hg3, hg3', e3, _, hr3, hs3, hf3⟩ := osl_at hown1 hlt; obtain ⟨x3, y3⟩ := s3; obtain ⟨rfl, ix, iy⟩ := hs3; have z6 := hr3 0 _ rfl; have z7 := hr3 1 _ rfl; have z8 := hf3 ((l.length - 1) * 2); simp only [Nat.add_zero] at z6 z7; have hd1 : 0 ≤ x3 := (lastDigit_at e3) ▸ HD.out.1; have hd2 : x3 ≤ 1000 := (lastDigit_at e3) ▸ HD.out.2; have HV1 := Lib.hid hown1; have HE3 := Lib.hid e3; have HG1 := Lib.hid hg1; have y0 := (hxg.cells (w.heap.size + 1) 0 (by simp <;> omega)).trans (show _ = some (.slice none 0 0) by go_simp); have y1 := (hxg.cells (w.heap.size + 1) 1 (by simp <;> omega)).trans (show _ = some (.int .i64 0) by go_simp); have y2 := (hxg.frz (w.heap.size + 1) 0 (by simp <;> omega)).trans (show _ = false by go_simp); have y3f := (hxg.frz (w.heap.size + 1) 1 (by simp <;> omega)).trans (show _ = false by go_simp); have hn1 : ¬ g3 = w.heap.size + 1 := (by omega); have hn2 : ¬ w.heap.size + 1 = g3 := (by omega); have hn3 : ¬ g3 = w1.heap.size := (by omega); simp [Value.ownBlock] at hat1; (try have hn5 : ¬ g3 = w.heap.size + 1 + 1 := (by omega)); (try have hn6 : ¬ w.heap.size + 1 + 1 = g3 := (by omega)); clear hown1 e3 hr3 hf3 hg1 hat1)))
  all_goals go_wp2
  all_goals refine bodyPost_end (v := .agg #[.slice (some ⟨g3, 0, none⟩) l.length c3, .int .i64 (c + k)]) (by simp [results, Try.results132, go_sem, y0, y1, hs1, hn1]) rfl ⟨[.slice (some ⟨g3, 0, none⟩) l.length c3, .int .i64 (c + k)], rfl, ⟨_, rfl, ?_, ?_⟩, ?_⟩
  all_goals clear hwr
  all_goals first
    | (show OSl _ _ _ _ _ _ _ (addLast l k); rw [addLast_set HE3.out]; repeat (first | (with_reducible refine osl_lalloc lf_stp ?_ _) | ((with_reducible refine osl_lset lf_stp ?_ ?_ _); · first | assumption | omega | (simp <;> omega)) | ((with_reducible refine osl_put0 gStp ?_ hlt (by omega) (stp_put (x' := x3 + k) HE3.out (i64_small (by omega) (by omega))))) | (with_reducible exact osl_any leaf_stp (osl_base (by omega) HV1.out))))
    | exact i64_small (by simp only [afterM]; omega) (by simp only [afterM]; omega)
    | (repeat (first | (with_reducible exact ext_refl _) | (with_reducible refine ext_drew ?_) | (with_reducible refine ext_alloc ?_ _) | (with_reducible refine ext_set ?_ (by first | omega | (simp <;> omega)) _) | (with_reducible refine ext_call ?_ hxg)))
end Go.Proofs.Ytghfmgndddjofaa
