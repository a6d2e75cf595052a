/- The mark so many behind one, by the reference. -/
import Derived.Test.YtiladkinndgeaaaQ65e273ef9d
import Derived.IntWalk
import Derived.Test.YtiladkinndgeaaaQf69f251b3b
import Derived.Test.YtiladkinndgeaaaQb6f19c0561
import Derived.Deep.RegionHeld3
set_option linter.unusedVariables false
set_option linter.unusedSimpArgs false
namespace Go.Proofs.Ytiladkinndgeaaa
open Go Go.RowKit Cp

end Go.Proofs.Ytiladkinndgeaaa
/- Next and NextOf: the mark so many behind one, with errors. -/
namespace Go.Proofs.Ytiladkinndgeaaa
open Go Go.RowKit Cp

/-- a mark and an errno -/
def IsMarkE (m : Mk) (er : Int) (w : World) (e : Ending) (w' : World) : Prop := ∃ cs, e = .returned (.tuple #[.agg cs.toArray, .int .i64 er]) ∧ RMk (fun k => w.heap.size ≤ k) w' cs m ∧ Ext w w'
theorem check_len {m : Mk} (h : checkM m = 0) : m.1.length ≤ 8000000000000 := by have := (checkM_ok.1 h).1; omega
theorem check_ne {m : Mk} (h : checkM m = 0) : m.1 ≠ [] := (checkM_ok.1 h).2.1
theorem check_clock {m : Mk} (h : checkM m = 0) : 0 ≤ m.2 ∧ m.2 ≤ 20000 := by have := (checkM_ok.1 h).2.2.2.2; omega
theorem check_digit {m : Mk} (h : checkM m = 0) : 0 ≤ lastDigit m.1 ∧ lastDigit m.1 ≤ 1000 := by
  obtain ⟨_, h2, h3, _⟩ := checkM_ok.1 h
  obtain ⟨q, s, e⟩ := snoc_of h2
  rw [e] at h3 ⊢
  rw [any_snoc_badS, Bool.or_eq_false_iff] at h3
  rw [lastDigit_snoc]
  have := badS_ok.1 h3.2
  omega
theorem nextM_rng {m : Mk} {k : Int} (h0 : checkM m = 0) (h : k < 0 ∨ 60 < k) : (nextM m k).2 = 3 := by unfold nextM; rw [if_neg (by omega), if_pos h]
theorem nextM_bad {m : Mk} {k : Int} (h0 : checkM m = 0) (h1 : 0 ≤ k) (h2 : k ≤ 60) (h3 : ¬ checkM (afterM m k) = 0) : (nextM m k).2 = 3 := by unfold nextM; rw [if_neg (by omega), if_neg (by omega), if_pos h3]
theorem nextM_chk {m : Mk} {k : Int} (h0 : ¬ checkM m = 0) : (nextM m k).2 = checkM m := by unfold nextM; rw [if_pos h0]
theorem RMk_fin {F G : Nat → Prop} {w w' : World} {cs : List Value} {m : Mk} (h : RMk F w cs m) (hk : Keeps F w w') (hg : ∀ k, F k → G k) : RMk G w' cs m := gMk.more (fun k hk _ => hg k hk) (gMk.keep hk h)

set_option maxRecDepth 100000 in
set_option maxHeartbeats 1600000 in
theorem next_any {F : Nat → Prop} {w : World} {cs : List Value} {m : Mk} {k : Int} (h : RMk F w cs m) :
    Calls Try.prog 63 #[.agg cs.toArray, .int .i64 k] w (IsMarkE (nextM m k).1 (nextM m k).2 w) := by
  have HC := Lib.hid (fun (W : World) (hx : Ext w W) => check_any (gMk.ext h hx))
  have ha := fun (h0 : checkM m = 0) (h1 : 0 ≤ k) (h2 : k ≤ 60) (W : World) (hx : Ext w W) => after_any (k := k) (gMk.ext h hx) (check_len h0) (check_ne h0) (check_digit h0) (check_clock h0) ⟨h1, by omega⟩
  obtain ⟨v, rfl, hl, hi64⟩ := h
  obtain ⟨l, c⟩ := m
  simp only at hl ha ⊢
  obtain ⟨a1, n1, c1, rfl⟩ := hl.slice
  clear hl hi64
  by_cases h0 : checkM (l, c) = 0
  · by_cases h1 : k < 0
    · have t0 : (checkM (l, c) != 0) = false := (by rw [h0]; rfl)
      clear ha
      have HE := Lib.hid (show (nextM (l, c) k).2 = 3 from nextM_rng h0 (.inl h1))
      have HV := Lib.hid (show (nextM (l, c) k).1 = ([], 0) from nextM_err (by rw [nextM_rng h0 (.inl h1)]; decide))
      clear h0
      go_enter Try.func63, Try.ntmps63
      go_wp2_with (first
        | (go_at_call 62; ((with_reducible refine (HC.out _ (by repeat (first | (with_reducible exact ext_refl _) | (with_reducible refine ext_drew ?_) | (with_reducible refine ext_drewN ?_ _) | (with_reducible refine ext_alloc ?_ _) | (with_reducible refine ext_set ?_ (by first | omega | (simp <;> omega)) _)))).mono ?_); rintro e w1 ⟨rfl, hx1⟩; have m0 := (hx1.cells (w.heap.size) 0 (by simp <;> omega)).trans (show _ = some (.slice a1 n1 c1) by go_simp); have m1 := (hx1.cells (w.heap.size) 1 (by simp <;> omega)).trans (show _ = some (.int .i64 c) by go_simp); have r0 := (hx1.cells (w.heap.size + 1) 0 (by simp <;> omega)).trans (show _ = some (.slice none 0 0) by go_simp); have rf0 := (hx1.frz (w.heap.size + 1) 0 (by simp <;> omega)).trans (show _ = false by go_simp); have r1 := (hx1.cells (w.heap.size + 1) 1 (by simp <;> omega)).trans (show _ = some (.int .i64 0) by go_simp); have rf1 := (hx1.frz (w.heap.size + 1) 1 (by simp <;> omega)).trans (show _ = false by go_simp); have HX1 := Lib.hid hx1; have hs1 := hx1.size; simp at hs1; clear hx1))
        | (go_at_call 74; go_must ((with_reducible refine (HA.out _ (by repeat (first | (with_reducible exact ext_refl _) | (with_reducible refine ext_drew ?_) | (with_reducible refine ext_drewN ?_ _) | (with_reducible refine ext_alloc ?_ _) | (with_reducible refine ext_set ?_ (by first | omega | (simp <;> omega)) _) | (with_reducible refine ext_call ?_ HX1.out)))).mono ?_); rintro e w2 ⟨cs2, rfl, hm2, hx2⟩; have HM2 := Lib.hid (omk_mk hm2); obtain ⟨v2, rfl, hv2, _⟩ := hm2; obtain ⟨a3, n3, c3, rfl⟩ := osl_slice hv2; have hx3 := ext_call HX1.out hx2; have q0 := (hx3.cells (w.heap.size + 1) 0 (by simp <;> omega)).trans (show _ = some (.slice none 0 0) by go_simp); have qf0 := (hx3.frz (w.heap.size + 1) 0 (by simp <;> omega)).trans (show _ = false by go_simp); have q1 := (hx3.cells (w.heap.size + 1) 1 (by simp <;> omega)).trans (show _ = some (.int .i64 0) by go_simp); have qf1 := (hx3.frz (w.heap.size + 1) 1 (by simp <;> omega)).trans (show _ = false by go_simp); have HX3 := Lib.hid hx3; have hs2 := hx2.size; (try simp at hs2); clear hx2 hx3 hv2 m0 m1 r0 rf0 r1 rf1))
        | (go_at_call 62; go_must ((with_reducible refine (check_any (gMk.ext HM2.out (ext_alloc (ext_refl _) _))).mono ?_); rintro e w3 ⟨rfl, hx4⟩; have b0 := (hx4.cells w2.heap.size 0 (by simp <;> omega)).trans (show _ = some (.slice a3 n3 c3) by go_simp); have b1 := (hx4.cells w2.heap.size 1 (by simp <;> omega)).trans (show _ = some (.int .i64 (c + k)) by go_simp); have hx5 := ext_call (ext_call HX3.out (ext_alloc (ext_refl _) _)) hx4; clear q0 qf0 q1 qf1; have q0 := (hx5.cells (w.heap.size + 1) 0 (by simp <;> omega)).trans (show _ = some (.slice none 0 0) by go_simp); have qf0 := (hx5.frz (w.heap.size + 1) 0 (by simp <;> omega)).trans (show _ = false by go_simp); have q1 := (hx5.cells (w.heap.size + 1) 1 (by simp <;> omega)).trans (show _ = some (.int .i64 0) by go_simp); have qf1 := (hx5.frz (w.heap.size + 1) 1 (by simp <;> omega)).trans (show _ = false by go_simp); have HX5 := Lib.hid hx5; have HX4 := Lib.hid hx4; have hs3 := hx4.size; (try simp at hs3); clear hx4 hx5)))
      all_goals refine bodyPost_ret (v := .tuple #[.agg #[.slice none 0 0, .int .i64 0], .int .i64 3]) (by simp [results, Try.results63, go_sem, r0, r1, rf0, rf1, hs1]) rfl ⟨[.slice none 0 0, .int .i64 0], by rw [HE.out], by rw [HV.out]; exact ⟨_, rfl, RSl.nil_ (Nat.zero_le _), i64_small (by simp) (by simp)⟩, (by repeat (first | (with_reducible exact ext_refl _) | (with_reducible refine ext_drew ?_) | (with_reducible refine ext_drewN ?_ _) | (with_reducible refine ext_alloc ?_ _) | (with_reducible refine ext_set ?_ (by first | omega | (simp <;> omega)) _) | (with_reducible refine ext_call ?_ HX1.out)))⟩
    · by_cases h2 : 60 < k
      · have t0 : (checkM (l, c) != 0) = false := (by rw [h0]; rfl)
        clear ha
        have HE := Lib.hid (show (nextM (l, c) k).2 = 3 from nextM_rng h0 (.inr h2))
        have HV := Lib.hid (show (nextM (l, c) k).1 = ([], 0) from nextM_err (by rw [nextM_rng h0 (.inr h2)]; decide))
        clear h0
        go_enter Try.func63, Try.ntmps63
        go_wp2_with (first
        | (go_at_call 62; ((with_reducible refine (HC.out _ (by repeat (first | (with_reducible exact ext_refl _) | (with_reducible refine ext_drew ?_) | (with_reducible refine ext_drewN ?_ _) | (with_reducible refine ext_alloc ?_ _) | (with_reducible refine ext_set ?_ (by first | omega | (simp <;> omega)) _)))).mono ?_); rintro e w1 ⟨rfl, hx1⟩; have m0 := (hx1.cells (w.heap.size) 0 (by simp <;> omega)).trans (show _ = some (.slice a1 n1 c1) by go_simp); have m1 := (hx1.cells (w.heap.size) 1 (by simp <;> omega)).trans (show _ = some (.int .i64 c) by go_simp); have r0 := (hx1.cells (w.heap.size + 1) 0 (by simp <;> omega)).trans (show _ = some (.slice none 0 0) by go_simp); have rf0 := (hx1.frz (w.heap.size + 1) 0 (by simp <;> omega)).trans (show _ = false by go_simp); have r1 := (hx1.cells (w.heap.size + 1) 1 (by simp <;> omega)).trans (show _ = some (.int .i64 0) by go_simp); have rf1 := (hx1.frz (w.heap.size + 1) 1 (by simp <;> omega)).trans (show _ = false by go_simp); have HX1 := Lib.hid hx1; have hs1 := hx1.size; simp at hs1; clear hx1))
        | (go_at_call 74; go_must ((with_reducible refine (HA.out _ (by repeat (first | (with_reducible exact ext_refl _) | (with_reducible refine ext_drew ?_) | (with_reducible refine ext_drewN ?_ _) | (with_reducible refine ext_alloc ?_ _) | (with_reducible refine ext_set ?_ (by first | omega | (simp <;> omega)) _) | (with_reducible refine ext_call ?_ HX1.out)))).mono ?_); rintro e w2 ⟨cs2, rfl, hm2, hx2⟩; have HM2 := Lib.hid (omk_mk hm2); obtain ⟨v2, rfl, hv2, _⟩ := hm2; obtain ⟨a3, n3, c3, rfl⟩ := osl_slice hv2; have hx3 := ext_call HX1.out hx2; have q0 := (hx3.cells (w.heap.size + 1) 0 (by simp <;> omega)).trans (show _ = some (.slice none 0 0) by go_simp); have qf0 := (hx3.frz (w.heap.size + 1) 0 (by simp <;> omega)).trans (show _ = false by go_simp); have q1 := (hx3.cells (w.heap.size + 1) 1 (by simp <;> omega)).trans (show _ = some (.int .i64 0) by go_simp); have qf1 := (hx3.frz (w.heap.size + 1) 1 (by simp <;> omega)).trans (show _ = false by go_simp); have HX3 := Lib.hid hx3; have hs2 := hx2.size; (try simp at hs2); clear hx2 hx3 hv2 m0 m1 r0 rf0 r1 rf1))
        | (go_at_call 62; go_must ((with_reducible refine (check_any (gMk.ext HM2.out (ext_alloc (ext_refl _) _))).mono ?_); rintro e w3 ⟨rfl, hx4⟩; have b0 := (hx4.cells w2.heap.size 0 (by simp <;> omega)).trans (show _ = some (.slice a3 n3 c3) by go_simp); have b1 := (hx4.cells w2.heap.size 1 (by simp <;> omega)).trans (show _ = some (.int .i64 (c + k)) by go_simp); have hx5 := ext_call (ext_call HX3.out (ext_alloc (ext_refl _) _)) hx4; clear q0 qf0 q1 qf1; have q0 := (hx5.cells (w.heap.size + 1) 0 (by simp <;> omega)).trans (show _ = some (.slice none 0 0) by go_simp); have qf0 := (hx5.frz (w.heap.size + 1) 0 (by simp <;> omega)).trans (show _ = false by go_simp); have q1 := (hx5.cells (w.heap.size + 1) 1 (by simp <;> omega)).trans (show _ = some (.int .i64 0) by go_simp); have qf1 := (hx5.frz (w.heap.size + 1) 1 (by simp <;> omega)).trans (show _ = false by go_simp); have HX5 := Lib.hid hx5; have HX4 := Lib.hid hx4; have hs3 := hx4.size; (try simp at hs3); clear hx4 hx5)))
        all_goals refine bodyPost_ret (v := .tuple #[.agg #[.slice none 0 0, .int .i64 0], .int .i64 3]) (by simp [results, Try.results63, go_sem, r0, r1, rf0, rf1, hs1]) rfl ⟨[.slice none 0 0, .int .i64 0], by rw [HE.out], by rw [HV.out]; exact ⟨_, rfl, RSl.nil_ (Nat.zero_le _), i64_small (by simp) (by simp)⟩, (by repeat (first | (with_reducible exact ext_refl _) | (with_reducible refine ext_drew ?_) | (with_reducible refine ext_drewN ?_ _) | (with_reducible refine ext_alloc ?_ _) | (with_reducible refine ext_set ?_ (by first | omega | (simp <;> omega)) _) | (with_reducible refine ext_call ?_ HX1.out)))⟩
      · have HA := Lib.hid (ha h0 (by omega) (by omega))
        clear ha
        obtain ⟨d1, d2⟩ := check_clock h0
        simp only at d1 d2
        have e0 : (afterM (l, c) k) = (addLast l k, c + k) := rfl
        rw [e0] at HA
        clear e0
        by_cases h3 : checkM (addLast l k, c + k) = 0
        · have t0 : (checkM (l, c) != 0) = false := (by rw [h0]; rfl)
          have t1 : (checkM (addLast l k, c + k) != 0) = false := (by rw [h3]; rfl)
          have H0 := Lib.hid h0
          have H3 := Lib.hid h3
          have HE := Lib.hid (show (nextM (l, c) k).2 = 0 from nextM_ok.2 ⟨h0, by omega, by omega, h3⟩)
          have HV := Lib.hid (show (nextM (l, c) k).1 = (addLast l k, c + k) from nextM_val (nextM_ok.2 ⟨h0, by omega, by omega, h3⟩))
          clear h0 h3
          go_enter Try.func63, Try.ntmps63
          go_wp2_with (first
        | (go_at_call 62; ((with_reducible refine (HC.out _ (by repeat (first | (with_reducible exact ext_refl _) | (with_reducible refine ext_drew ?_) | (with_reducible refine ext_drewN ?_ _) | (with_reducible refine ext_alloc ?_ _) | (with_reducible refine ext_set ?_ (by first | omega | (simp <;> omega)) _)))).mono ?_); rintro e w1 ⟨rfl, hx1⟩; have m0 := (hx1.cells (w.heap.size) 0 (by simp <;> omega)).trans (show _ = some (.slice a1 n1 c1) by go_simp); have m1 := (hx1.cells (w.heap.size) 1 (by simp <;> omega)).trans (show _ = some (.int .i64 c) by go_simp); have r0 := (hx1.cells (w.heap.size + 1) 0 (by simp <;> omega)).trans (show _ = some (.slice none 0 0) by go_simp); have rf0 := (hx1.frz (w.heap.size + 1) 0 (by simp <;> omega)).trans (show _ = false by go_simp); have r1 := (hx1.cells (w.heap.size + 1) 1 (by simp <;> omega)).trans (show _ = some (.int .i64 0) by go_simp); have rf1 := (hx1.frz (w.heap.size + 1) 1 (by simp <;> omega)).trans (show _ = false by go_simp); have HX1 := Lib.hid hx1; have hs1 := hx1.size; simp at hs1; clear hx1))
        | (go_at_call 74; go_must ((with_reducible refine (HA.out _ (by repeat (first | (with_reducible exact ext_refl _) | (with_reducible refine ext_drew ?_) | (with_reducible refine ext_drewN ?_ _) | (with_reducible refine ext_alloc ?_ _) | (with_reducible refine ext_set ?_ (by first | omega | (simp <;> omega)) _) | (with_reducible refine ext_call ?_ HX1.out)))).mono ?_); rintro e w2 ⟨cs2, rfl, hm2, hx2⟩; have HM2 := Lib.hid (omk_mk hm2); obtain ⟨v2, rfl, hv2, _⟩ := hm2; obtain ⟨a3, n3, c3, rfl⟩ := osl_slice hv2; have hx3 := ext_call HX1.out hx2; have q0 := (hx3.cells (w.heap.size + 1) 0 (by simp <;> omega)).trans (show _ = some (.slice none 0 0) by go_simp); have qf0 := (hx3.frz (w.heap.size + 1) 0 (by simp <;> omega)).trans (show _ = false by go_simp); have q1 := (hx3.cells (w.heap.size + 1) 1 (by simp <;> omega)).trans (show _ = some (.int .i64 0) by go_simp); have qf1 := (hx3.frz (w.heap.size + 1) 1 (by simp <;> omega)).trans (show _ = false by go_simp); have HX3 := Lib.hid hx3; have hs2 := hx2.size; (try simp at hs2); clear hx2 hx3 hv2 m0 m1 r0 rf0 r1 rf1))
        | (go_at_call 62; go_must ((with_reducible refine (check_any (gMk.ext HM2.out (ext_alloc (ext_refl _) _))).mono ?_); rintro e w3 ⟨rfl, hx4⟩; have b0 := (hx4.cells w2.heap.size 0 (by simp <;> omega)).trans (show _ = some (.slice a3 n3 c3) by go_simp); have b1 := (hx4.cells w2.heap.size 1 (by simp <;> omega)).trans (show _ = some (.int .i64 (c + k)) by go_simp); have hx5 := ext_call (ext_call HX3.out (ext_alloc (ext_refl _) _)) hx4; clear q0 qf0 q1 qf1; have q0 := (hx5.cells (w.heap.size + 1) 0 (by simp <;> omega)).trans (show _ = some (.slice none 0 0) by go_simp); have qf0 := (hx5.frz (w.heap.size + 1) 0 (by simp <;> omega)).trans (show _ = false by go_simp); have q1 := (hx5.cells (w.heap.size + 1) 1 (by simp <;> omega)).trans (show _ = some (.int .i64 0) by go_simp); have qf1 := (hx5.frz (w.heap.size + 1) 1 (by simp <;> omega)).trans (show _ = false by go_simp); have HX5 := Lib.hid hx5; have HX4 := Lib.hid hx4; have hs3 := hx4.size; (try simp at hs3); clear hx4 hx5)))
          all_goals refine bodyPost_ret (v := .tuple #[.agg #[.slice a3 n3 c3, .int .i64 (c + k)], .int .i64 0]) (by simp [results, Try.results63, go_sem, q0, q1, b0, b1, qf0, qf1, hs1, hs2, hs3]) rfl ⟨[.slice a3 n3 c3, .int .i64 (c + k)], by rw [HE.out], by rw [HV.out]; exact RMk_fin HM2.out (by repeat (first | (with_reducible exact keeps_refl) | (with_reducible refine keeps_drew ?_) | (with_reducible refine keeps_alloc ?_ _) | (with_reducible refine keeps_set ?_ (by first | omega | (simp <;> omega)) _) | (with_reducible refine keeps_ext ?_ HX4.out)))  (by first | omega | (simp <;> omega)), (by repeat (first | (with_reducible exact ext_refl _) | (with_reducible refine ext_drew ?_) | (with_reducible refine ext_drewN ?_ _) | (with_reducible refine ext_alloc ?_ _) | (with_reducible refine ext_set ?_ (by first | omega | (simp <;> omega)) _) | (with_reducible refine ext_call ?_ HX5.out)))⟩
        · have t0 : (checkM (l, c) != 0) = false := (by rw [h0]; rfl)
          have t1 : (checkM (addLast l k, c + k) != 0) = true := (by rw [bne_iff_ne]; exact h3)
          have H0 := Lib.hid h0
          have H3 := Lib.hid h3
          have HE := Lib.hid (show (nextM (l, c) k).2 = 3 from nextM_bad h0 (by omega) (by omega) h3)
          have HV := Lib.hid (show (nextM (l, c) k).1 = ([], 0) from nextM_err (by rw [nextM_bad h0 (by omega) (by omega) h3]; decide))
          clear h0 h3
          go_enter Try.func63, Try.ntmps63
          go_wp2_with (first
        | (go_at_call 62; ((with_reducible refine (HC.out _ (by repeat (first | (with_reducible exact ext_refl _) | (with_reducible refine ext_drew ?_) | (with_reducible refine ext_drewN ?_ _) | (with_reducible refine ext_alloc ?_ _) | (with_reducible refine ext_set ?_ (by first | omega | (simp <;> omega)) _)))).mono ?_); rintro e w1 ⟨rfl, hx1⟩; have m0 := (hx1.cells (w.heap.size) 0 (by simp <;> omega)).trans (show _ = some (.slice a1 n1 c1) by go_simp); have m1 := (hx1.cells (w.heap.size) 1 (by simp <;> omega)).trans (show _ = some (.int .i64 c) by go_simp); have r0 := (hx1.cells (w.heap.size + 1) 0 (by simp <;> omega)).trans (show _ = some (.slice none 0 0) by go_simp); have rf0 := (hx1.frz (w.heap.size + 1) 0 (by simp <;> omega)).trans (show _ = false by go_simp); have r1 := (hx1.cells (w.heap.size + 1) 1 (by simp <;> omega)).trans (show _ = some (.int .i64 0) by go_simp); have rf1 := (hx1.frz (w.heap.size + 1) 1 (by simp <;> omega)).trans (show _ = false by go_simp); have HX1 := Lib.hid hx1; have hs1 := hx1.size; simp at hs1; clear hx1))
        | (go_at_call 74; go_must ((with_reducible refine (HA.out _ (by repeat (first | (with_reducible exact ext_refl _) | (with_reducible refine ext_drew ?_) | (with_reducible refine ext_drewN ?_ _) | (with_reducible refine ext_alloc ?_ _) | (with_reducible refine ext_set ?_ (by first | omega | (simp <;> omega)) _) | (with_reducible refine ext_call ?_ HX1.out)))).mono ?_); rintro e w2 ⟨cs2, rfl, hm2, hx2⟩; have HM2 := Lib.hid (omk_mk hm2); obtain ⟨v2, rfl, hv2, _⟩ := hm2; obtain ⟨a3, n3, c3, rfl⟩ := osl_slice hv2; have hx3 := ext_call HX1.out hx2; have q0 := (hx3.cells (w.heap.size + 1) 0 (by simp <;> omega)).trans (show _ = some (.slice none 0 0) by go_simp); have qf0 := (hx3.frz (w.heap.size + 1) 0 (by simp <;> omega)).trans (show _ = false by go_simp); have q1 := (hx3.cells (w.heap.size + 1) 1 (by simp <;> omega)).trans (show _ = some (.int .i64 0) by go_simp); have qf1 := (hx3.frz (w.heap.size + 1) 1 (by simp <;> omega)).trans (show _ = false by go_simp); have HX3 := Lib.hid hx3; have hs2 := hx2.size; (try simp at hs2); clear hx2 hx3 hv2 m0 m1 r0 rf0 r1 rf1))
        | (go_at_call 62; go_must ((with_reducible refine (check_any (gMk.ext HM2.out (ext_alloc (ext_refl _) _))).mono ?_); rintro e w3 ⟨rfl, hx4⟩; have b0 := (hx4.cells w2.heap.size 0 (by simp <;> omega)).trans (show _ = some (.slice a3 n3 c3) by go_simp); have b1 := (hx4.cells w2.heap.size 1 (by simp <;> omega)).trans (show _ = some (.int .i64 (c + k)) by go_simp); have hx5 := ext_call (ext_call HX3.out (ext_alloc (ext_refl _) _)) hx4; clear q0 qf0 q1 qf1; have q0 := (hx5.cells (w.heap.size + 1) 0 (by simp <;> omega)).trans (show _ = some (.slice none 0 0) by go_simp); have qf0 := (hx5.frz (w.heap.size + 1) 0 (by simp <;> omega)).trans (show _ = false by go_simp); have q1 := (hx5.cells (w.heap.size + 1) 1 (by simp <;> omega)).trans (show _ = some (.int .i64 0) by go_simp); have qf1 := (hx5.frz (w.heap.size + 1) 1 (by simp <;> omega)).trans (show _ = false by go_simp); have HX5 := Lib.hid hx5; have HX4 := Lib.hid hx4; have hs3 := hx4.size; (try simp at hs3); clear hx4 hx5)))
          all_goals refine bodyPost_ret (v := .tuple #[.agg #[.slice none 0 0, .int .i64 0], .int .i64 3]) (by simp [results, Try.results63, go_sem, q0, q1, qf0, qf1, hs1, hs2, hs3]) rfl ⟨[.slice none 0 0, .int .i64 0], by rw [HE.out], by rw [HV.out]; exact ⟨_, rfl, RSl.nil_ (Nat.zero_le _), i64_small (by simp) (by simp)⟩, (by repeat (first | (with_reducible exact ext_refl _) | (with_reducible refine ext_drew ?_) | (with_reducible refine ext_drewN ?_ _) | (with_reducible refine ext_alloc ?_ _) | (with_reducible refine ext_set ?_ (by first | omega | (simp <;> omega)) _) | (with_reducible refine ext_call ?_ HX5.out)))⟩
  · have t0 : (checkM (l, c) != 0) = true := (by rw [bne_iff_ne]; exact h0)
    clear ha
    have HE := Lib.hid (show (nextM (l, c) k).2 = (checkM (l, c)) from nextM_chk h0)
    have HV := Lib.hid (show (nextM (l, c) k).1 = ([], 0) from nextM_err (by rw [nextM_chk h0]; exact h0))
    have H0 := Lib.hid h0
    clear h0
    go_enter Try.func63, Try.ntmps63
    go_wp2_with (first
        | (go_at_call 62; ((with_reducible refine (HC.out _ (by repeat (first | (with_reducible exact ext_refl _) | (with_reducible refine ext_drew ?_) | (with_reducible refine ext_drewN ?_ _) | (with_reducible refine ext_alloc ?_ _) | (with_reducible refine ext_set ?_ (by first | omega | (simp <;> omega)) _)))).mono ?_); rintro e w1 ⟨rfl, hx1⟩; have m0 := (hx1.cells (w.heap.size) 0 (by simp <;> omega)).trans (show _ = some (.slice a1 n1 c1) by go_simp); have m1 := (hx1.cells (w.heap.size) 1 (by simp <;> omega)).trans (show _ = some (.int .i64 c) by go_simp); have r0 := (hx1.cells (w.heap.size + 1) 0 (by simp <;> omega)).trans (show _ = some (.slice none 0 0) by go_simp); have rf0 := (hx1.frz (w.heap.size + 1) 0 (by simp <;> omega)).trans (show _ = false by go_simp); have r1 := (hx1.cells (w.heap.size + 1) 1 (by simp <;> omega)).trans (show _ = some (.int .i64 0) by go_simp); have rf1 := (hx1.frz (w.heap.size + 1) 1 (by simp <;> omega)).trans (show _ = false by go_simp); have HX1 := Lib.hid hx1; have hs1 := hx1.size; simp at hs1; clear hx1))
        | (go_at_call 74; go_must ((with_reducible refine (HA.out _ (by repeat (first | (with_reducible exact ext_refl _) | (with_reducible refine ext_drew ?_) | (with_reducible refine ext_drewN ?_ _) | (with_reducible refine ext_alloc ?_ _) | (with_reducible refine ext_set ?_ (by first | omega | (simp <;> omega)) _) | (with_reducible refine ext_call ?_ HX1.out)))).mono ?_); rintro e w2 ⟨cs2, rfl, hm2, hx2⟩; have HM2 := Lib.hid (omk_mk hm2); obtain ⟨v2, rfl, hv2, _⟩ := hm2; obtain ⟨a3, n3, c3, rfl⟩ := osl_slice hv2; have hx3 := ext_call HX1.out hx2; have q0 := (hx3.cells (w.heap.size + 1) 0 (by simp <;> omega)).trans (show _ = some (.slice none 0 0) by go_simp); have qf0 := (hx3.frz (w.heap.size + 1) 0 (by simp <;> omega)).trans (show _ = false by go_simp); have q1 := (hx3.cells (w.heap.size + 1) 1 (by simp <;> omega)).trans (show _ = some (.int .i64 0) by go_simp); have qf1 := (hx3.frz (w.heap.size + 1) 1 (by simp <;> omega)).trans (show _ = false by go_simp); have HX3 := Lib.hid hx3; have hs2 := hx2.size; (try simp at hs2); clear hx2 hx3 hv2 m0 m1 r0 rf0 r1 rf1))
        | (go_at_call 62; go_must ((with_reducible refine (check_any (gMk.ext HM2.out (ext_alloc (ext_refl _) _))).mono ?_); rintro e w3 ⟨rfl, hx4⟩; have b0 := (hx4.cells w2.heap.size 0 (by simp <;> omega)).trans (show _ = some (.slice a3 n3 c3) by go_simp); have b1 := (hx4.cells w2.heap.size 1 (by simp <;> omega)).trans (show _ = some (.int .i64 (c + k)) by go_simp); have hx5 := ext_call (ext_call HX3.out (ext_alloc (ext_refl _) _)) hx4; clear q0 qf0 q1 qf1; have q0 := (hx5.cells (w.heap.size + 1) 0 (by simp <;> omega)).trans (show _ = some (.slice none 0 0) by go_simp); have qf0 := (hx5.frz (w.heap.size + 1) 0 (by simp <;> omega)).trans (show _ = false by go_simp); have q1 := (hx5.cells (w.heap.size + 1) 1 (by simp <;> omega)).trans (show _ = some (.int .i64 0) by go_simp); have qf1 := (hx5.frz (w.heap.size + 1) 1 (by simp <;> omega)).trans (show _ = false by go_simp); have HX5 := Lib.hid hx5; have HX4 := Lib.hid hx4; have hs3 := hx4.size; (try simp at hs3); clear hx4 hx5)))
    all_goals refine bodyPost_ret (v := .tuple #[.agg #[.slice none 0 0, .int .i64 0], .int .i64 (checkM (l, c))]) (by simp [results, Try.results63, go_sem, r0, r1, rf0, rf1, hs1]) rfl ⟨[.slice none 0 0, .int .i64 0], by rw [HE.out], by rw [HV.out]; exact ⟨_, rfl, RSl.nil_ (Nat.zero_le _), i64_small (by simp) (by simp)⟩, (by repeat (first | (with_reducible exact ext_refl _) | (with_reducible refine ext_drew ?_) | (with_reducible refine ext_drewN ?_ _) | (with_reducible refine ext_alloc ?_ _) | (with_reducible refine ext_set ?_ (by first | omega | (simp <;> omega)) _) | (with_reducible refine ext_call ?_ HX1.out)))⟩

end Go.Proofs.Ytiladkinndgeaaa
/- What is wrong with a run. -/
namespace Go.Proofs.Ytiladkinndgeaaa
open Go Go.RowKit Go.BigFrame Cp

theorem tx_bytes {v : Value} {t : Tx} (h : RTx v t) : ∃ s : ByteArray, v = .string s ∧ t = s.data.toList ∧ s.size ≤ 140737488351232 := by
  obtain ⟨rfl, h⟩ := h
  exact ⟨⟨t.toArray⟩, rfl, by simp, by simpa [ByteArray.size] using h⟩
theorem tx_max {n : Nat} (h : n ≤ 140737488351232) : n ≤ maxLen := by unfold maxLen; omega
theorem bytes_nil {s : ByteArray} (h : s.size = 0) : s.data.toList = [] := by
  exact List.length_eq_zero_iff.1 (by simpa using h)
theorem bytes_cons {s : ByteArray} (h : ¬ s.size = 0) : s.data.toList ≠ [] := by
  intro e
  apply h
  have : s.data.toList.length = 0 := by rw [e]; rfl
  simpa using this
theorem empty_yes {s : ByteArray} (h : s.size = 0) : s.toList.isEmpty = true := by rw [ByteArray.toList_eq, bytes_nil h]; rfl
theorem empty_no {s : ByteArray} (h : ¬ s.size = 0) : s.toList.isEmpty = false := by
  rw [ByteArray.toList_eq]
  cases hl : s.data.toList with
  | nil => exact absurd hl (bytes_cons h)
  | cons _ _ => rfl
section
variable {m : Mk} {s : ByteArray}
theorem checkR_mark (h : ¬ checkM m = 0) : checkR (m, s.data.toList) = checkM m := by unfold checkR; rw [if_pos h]
theorem checkR_nil (h : checkM m = 0) (h2 : s.size = 0) : checkR (m, s.data.toList) = 1 := by unfold checkR; rw [if_neg (by simpa using h), if_pos (bytes_nil h2)]
theorem checkR_many (h : checkM m = 0) (h2 : ¬ s.size = 0) (h3 : 60 < s.size) : checkR (m, s.data.toList) = 2 := by unfold checkR; rw [if_neg (by simpa using h), if_neg (bytes_cons h2), if_pos (by simpa using h3)]
theorem checkR_sign (h : checkM m = 0) (h2 : ¬ s.size = 0) (h3 : ¬ 60 < s.size) (h4 : signsB s.data.toList = false) : checkR (m, s.data.toList) = 3 := by
  unfold checkR; rw [if_neg (by simpa using h), if_neg (bytes_cons h2), if_neg (by simpa using h3), if_pos h4]
theorem checkR_next (h : checkM m = 0) (h2 : ¬ s.size = 0) (h3 : ¬ 60 < s.size) (h4 : signsB s.data.toList = true) : checkR (m, s.data.toList) = (nextM m ((s.size : Int) - 1)).2 := by
  unfold checkR; rw [if_neg (by simpa using h), if_neg (bytes_cons h2), if_neg (by simpa using h3), if_neg (by rw [h4]; simp)]
  have : s.data.toList.length = s.size := by simp
  simp only [this]
end
theorem rrn_of {F : Nat → Prop} {w : World} {v : Value} {l : List Stp} {c : Int} {s : Value} {t : Tx} (h : RSl RStp 2 F w v l) (i : I64 c) (k : RTx s t) : RRn F w [v, .int .i64 c, s] ((l, c), t) := ⟨v, s, rfl, h, i, k⟩

set_option maxRecDepth 100000 in
set_option maxHeartbeats 4000000 in
theorem checkRunP_any {F : Nat → Prop} {w : World} {cs : List Value} {r : Rn} (h : RRn F w cs r) :
    Calls Try.prog 60 #[.agg cs.toArray] w fun e w' => e = .returned (.int .i64 (checkR r)) ∧ Ext w w' := by
  obtain ⟨v, u, rfl, hl, hi, hu⟩ := h
  obtain ⟨⟨l, c⟩, t⟩ := r
  simp only at hl hi hu ⊢
  obtain ⟨s, rfl, rfl, hs⟩ := tx_bytes hu
  have HC := Lib.hid (fun (W : World) (hx : Ext w W) => check_any (rmk_of' (hl.ext gStp hx) hi))
  have HN := Lib.hid (fun (W : World) (hx : Ext w W) => next_any (k := (s.size : Int) - 1) (rmk_of' (hl.ext gStp hx) hi))
  have HG := Lib.hid (fun (W : World) => signs_any s W (tx_max hs))
  obtain ⟨a1, n1, c1, rfl⟩ := hl.slice
  clear hl hi hu
  by_cases h0 : checkM (l, c) = 0
  · have H0 := Lib.hid h0
    rw [h0] at HC
    clear h0
    by_cases h1 : s.size = 0
    · rw [checkR_nil H0.out h1]
      have t1 : s.toList.isEmpty = true := empty_yes h1
      clear h1
      go_enter Try.func60, Try.ntmps60
      go_wp2_with (first
        | (go_at_call 62; go_must ((with_reducible refine (HC.out _ extA).mono ?_); rintro e w1 ⟨rfl, hx1⟩; have hz1 := hx1.size; (try simp at hz1); have hb1_0 : w.heap.size < w1.heap.size := (by omega); have p0 := (hx1.cells (w.heap.size) (0) (by first | omega | (simp <;> omega))).trans (show _ = some (.slice a1 n1 c1) by first | (with_reducible assumption) | go_simp); have p1 := (hx1.cells (w.heap.size) (1) (by first | omega | (simp <;> omega))).trans (show _ = some (.int .i64 c) by first | (with_reducible assumption) | go_simp); have p2 := (hx1.cells (w.heap.size) (2) (by first | omega | (simp <;> omega))).trans (show _ = some (.string s) by first | (with_reducible assumption) | go_simp)))
        | (go_at_call 71; go_must ((with_reducible refine (HG.out _).mono ?_); rintro e w' ⟨rfl, rfl⟩))
        | (go_at_call 63; go_must ((with_reducible refine (HN.out _ extA).mono ?_); rintro e w3 ⟨cs3, rfl, hm3, hx3⟩)))
      go_ret
      exact ⟨rfl, extA⟩
    have t1 : s.toList.isEmpty = false := empty_no h1
    have hp : 0 < s.size := by omega
    by_cases h3 : 60 < s.size
    · rw [checkR_many H0.out h1 h3]
      clear h1
      go_enter Try.func60, Try.ntmps60
      go_wp2_with (first
        | (go_at_call 62; go_must ((with_reducible refine (HC.out _ extA).mono ?_); rintro e w1 ⟨rfl, hx1⟩; have hz1 := hx1.size; (try simp at hz1); have hb1_0 : w.heap.size < w1.heap.size := (by omega); have p0 := (hx1.cells (w.heap.size) (0) (by first | omega | (simp <;> omega))).trans (show _ = some (.slice a1 n1 c1) by first | (with_reducible assumption) | go_simp); have p1 := (hx1.cells (w.heap.size) (1) (by first | omega | (simp <;> omega))).trans (show _ = some (.int .i64 c) by first | (with_reducible assumption) | go_simp); have p2 := (hx1.cells (w.heap.size) (2) (by first | omega | (simp <;> omega))).trans (show _ = some (.string s) by first | (with_reducible assumption) | go_simp)))
        | (go_at_call 71; go_must ((with_reducible refine (HG.out _).mono ?_); rintro e w' ⟨rfl, rfl⟩))
        | (go_at_call 63; go_must ((with_reducible refine (HN.out _ extA).mono ?_); rintro e w3 ⟨cs3, rfl, hm3, hx3⟩)))
      go_ret
      exact ⟨rfl, extA⟩
    cases h4 : signsB s.data.toList with
    | false =>
      rw [checkR_sign H0.out h1 h3 h4]
      rw [h4] at HG
      clear h1
      go_enter Try.func60, Try.ntmps60
      go_wp2_with (first
        | (go_at_call 62; go_must ((with_reducible refine (HC.out _ extA).mono ?_); rintro e w1 ⟨rfl, hx1⟩; have hz1 := hx1.size; (try simp at hz1); have hb1_0 : w.heap.size < w1.heap.size := (by omega); have p0 := (hx1.cells (w.heap.size) (0) (by first | omega | (simp <;> omega))).trans (show _ = some (.slice a1 n1 c1) by first | (with_reducible assumption) | go_simp); have p1 := (hx1.cells (w.heap.size) (1) (by first | omega | (simp <;> omega))).trans (show _ = some (.int .i64 c) by first | (with_reducible assumption) | go_simp); have p2 := (hx1.cells (w.heap.size) (2) (by first | omega | (simp <;> omega))).trans (show _ = some (.string s) by first | (with_reducible assumption) | go_simp)))
        | (go_at_call 71; go_must ((with_reducible refine (HG.out _).mono ?_); rintro e w' ⟨rfl, rfl⟩))
        | (go_at_call 63; go_must ((with_reducible refine (HN.out _ extA).mono ?_); rintro e w3 ⟨cs3, rfl, hm3, hx3⟩)))
      go_ret
      exact ⟨rfl, extA⟩
    | true =>
      rw [checkR_next H0.out h1 h3 h4]
      rw [h4] at HG
      clear h1
      generalize nextM (l, c) ((s.size : Int) - 1) = nx at *
      obtain ⟨nm, er⟩ := nx
      simp only at HN ⊢
      go_enter Try.func60, Try.ntmps60
      go_wp2_with (first
        | (go_at_call 62; go_must ((with_reducible refine (HC.out _ extA).mono ?_); rintro e w1 ⟨rfl, hx1⟩; have hz1 := hx1.size; (try simp at hz1); have hb1_0 : w.heap.size < w1.heap.size := (by omega); have p0 := (hx1.cells (w.heap.size) (0) (by first | omega | (simp <;> omega))).trans (show _ = some (.slice a1 n1 c1) by first | (with_reducible assumption) | go_simp); have p1 := (hx1.cells (w.heap.size) (1) (by first | omega | (simp <;> omega))).trans (show _ = some (.int .i64 c) by first | (with_reducible assumption) | go_simp); have p2 := (hx1.cells (w.heap.size) (2) (by first | omega | (simp <;> omega))).trans (show _ = some (.string s) by first | (with_reducible assumption) | go_simp)))
        | (go_at_call 71; go_must ((with_reducible refine (HG.out _).mono ?_); rintro e w' ⟨rfl, rfl⟩))
        | (go_at_call 63; go_must ((with_reducible refine (HN.out _ extA).mono ?_); rintro e w3 ⟨cs3, rfl, hm3, hx3⟩)))
      go_ret
      exact ⟨rfl, extA⟩
  · rw [checkR_mark h0]
    have t1 : (checkM (l, c) != 0) = true := by simpa using h0
    generalize checkM (l, c) = r at *
    clear h0
    go_enter Try.func60, Try.ntmps60
    go_wp2_with (first
      | (go_at_call 62; go_must ((with_reducible refine (HC.out _ extA).mono ?_); rintro e w1 ⟨rfl, hx1⟩; have hz1 := hx1.size; (try simp at hz1); have hb1_0 : w.heap.size < w1.heap.size := (by omega); have p0 := (hx1.cells (w.heap.size) (0) (by first | omega | (simp <;> omega))).trans (show _ = some (.slice a1 n1 c1) by first | (with_reducible assumption) | go_simp); have p1 := (hx1.cells (w.heap.size) (1) (by first | omega | (simp <;> omega))).trans (show _ = some (.int .i64 c) by first | (with_reducible assumption) | go_simp); have p2 := (hx1.cells (w.heap.size) (2) (by first | omega | (simp <;> omega))).trans (show _ = some (.string s) by first | (with_reducible assumption) | go_simp)))
      | (go_at_call 71; go_must ((with_reducible refine (HG.out _).mono ?_); rintro e w' ⟨rfl, rfl⟩))
      | (go_at_call 63; go_must ((with_reducible refine (HN.out _ extA).mono ?_); rintro e w3 ⟨cs3, rfl, hm3, hx3⟩)))
    go_ret
    exact ⟨rfl, extA⟩

end Go.Proofs.Ytiladkinndgeaaa
/- What is wrong with a deed. -/
namespace Go.Proofs.Ytiladkinndgeaaa
open Go Go.RowKit Go.BigFrame Cp

def checkD (d : De) : Int :=
  if d.kind = 1 then (if checkR d.run ≠ 0 then checkR d.run else if noneM d.mark = false ∨ d.many ≠ 0 then 1 else 0)
  else if d.kind = 2 then
    (if checkM d.mark ≠ 0 then checkM d.mark else if noneM d.run.1 = false ∨ d.run.2 ≠ [] then 1 else if d.many < 1 ∨ 60 < d.many then 3 else (nextM d.mark (d.many - 1)).2)
  else 7
section
variable {d : De}
theorem checkD_put_bad (h : d.kind = 1) (h1 : ¬ checkR d.run = 0) : checkD d = checkR d.run := by unfold checkD; rw [if_pos h, if_pos h1]
theorem checkD_put_form (h : d.kind = 1) (h1 : checkR d.run = 0) (h2 : noneM d.mark = false ∨ d.many ≠ 0) : checkD d = 1 := by unfold checkD; rw [if_pos h, if_neg (by simpa using h1), if_pos h2]
theorem checkD_put_ok (h : d.kind = 1) (h1 : checkR d.run = 0) (h2 : noneM d.mark = true) (h3 : d.many = 0) : checkD d = 0 := by unfold checkD; rw [if_pos h, if_neg (by simpa using h1), if_neg (by rw [h2, h3]; simp)]
theorem checkD_take_bad (h0 : ¬ d.kind = 1) (h : d.kind = 2) (h1 : ¬ checkM d.mark = 0) : checkD d = checkM d.mark := by unfold checkD; rw [if_neg h0, if_pos h, if_pos h1]
theorem checkD_take_form (h0 : ¬ d.kind = 1) (h : d.kind = 2) (h1 : checkM d.mark = 0) (h2 : noneM d.run.1 = false ∨ d.run.2 ≠ []) : checkD d = 1 := by unfold checkD; rw [if_neg h0, if_pos h, if_neg (by simpa using h1), if_pos h2]
theorem checkD_take_range (h0 : ¬ d.kind = 1) (h : d.kind = 2) (h1 : checkM d.mark = 0) (h2 : noneM d.run.1 = true) (h3 : d.run.2 = []) (h4 : d.many < 1 ∨ 60 < d.many) : checkD d = 3 := by
  unfold checkD; rw [if_neg h0, if_pos h, if_neg (by simpa using h1), if_neg (by rw [h2, h3]; simp), if_pos h4]
theorem checkD_take_next (h0 : ¬ d.kind = 1) (h : d.kind = 2) (h1 : checkM d.mark = 0) (h2 : noneM d.run.1 = true) (h3 : d.run.2 = []) (h4 : ¬ (d.many < 1 ∨ 60 < d.many)) : checkD d = (nextM d.mark (d.many - 1)).2 := by
  unfold checkD; rw [if_neg h0, if_pos h, if_neg (by simpa using h1), if_neg (by rw [h2, h3]; simp), if_neg h4]
theorem checkD_kind (h0 : ¬ d.kind = 1) (h : ¬ d.kind = 2) : checkD d = 7 := by unfold checkD; rw [if_neg h0, if_neg h]
end
theorem rde_of {F : Nat → Prop} {w : World} {v u s : Value} {k c c2 m : Int} {p p2 : List Stp} {t : Tx} (hk : I64 k) (hp : RSl RStp 2 F w v p) (hc : I64 c) (ht : RTx s t) (hq : RSl RStp 2 F w u p2) (hc2 : I64 c2) (hm : I64 m) :
    RDe F w [.int .i64 k, v, .int .i64 c, s, u, .int .i64 c2, .int .i64 m] ⟨k, ((p, c), t), (p2, c2), m⟩ := ⟨v, s, u, rfl, hk, hp, hc, ht, hq, hc2, hm⟩

set_option maxRecDepth 100000 in
set_option maxHeartbeats 4000000 in
theorem checkDeedP_any {F : Nat → Prop} {w : World} {cs : List Value} {d : De} (h : RDe F w cs d) :
    Calls Try.prog 43 #[.agg cs.toArray] w fun e w' => e = .returned (.int .i64 (checkD d)) ∧ Ext w w' := by
  obtain ⟨v, u, x, rfl, hk, hl, hi, hu, hm, hj, hn⟩ := h
  obtain ⟨kd, ⟨⟨l, c⟩, t⟩, ⟨m, e⟩, mn⟩ := d
  simp only at hk hl hi hu hm hj hn ⊢
  obtain ⟨s, rfl, rfl, hs⟩ := tx_bytes hu
  have HR := Lib.hid (fun (W : World) (hx : Ext w W) => checkRunP_any (rrn_of (hl.ext gStp hx) hi hu))
  have HK := Lib.hid (fun (W : World) (hx : Ext w W) => check_any (rmk_of' (hm.ext gStp hx) hj))
  have HN1 := Lib.hid (fun (W : World) (hx : Ext w W) => noneP_any (rmk_of' (hl.ext gStp hx) hi))
  have HN2 := Lib.hid (fun (W : World) (hx : Ext w W) => noneP_any (rmk_of' (hm.ext gStp hx) hj))
  have HX := Lib.hid (fun (W : World) (hx : Ext w W) => next_any (k := mn - 1) (rmk_of' (hm.ext gStp hx) hj))
  obtain ⟨a1, n1, c1, rfl⟩ := hl.slice
  obtain ⟨a2, n2, c2, rfl⟩ := hm.slice
  obtain ⟨hn1, hn2⟩ := hn
  clear hl hi hu hm hj hk
  by_cases k1 : kd = 1
  · subst k1
    by_cases h0 : checkR ((l, c), s.data.toList) = 0
    · have H0 := Lib.hid h0
      rw [h0] at HR
      clear h0
      cases g : noneM (m, e) with
      | false =>
        rw [checkD_put_form rfl H0.out (.inl g)]
        rw [g] at HN2
        clear HN1 HK
        go_enter Try.func43, Try.ntmps43
        go_wp2_with (first
          | (go_at_call 60; (with_reducible refine (HR.out _ extA).mono ?_); rintro e' w1 ⟨rfl, hx1⟩; have hz1 := hx1.size; (try simp at hz1); have hb1_0 : w.heap.size < w1.heap.size := (by omega); have p0 := (hx1.cells (w.heap.size) (0) (by first | omega | (simp <;> omega))).trans (show _ = some (.int .i64 1) by first | (with_reducible assumption) | go_simp); have p1 := (hx1.cells (w.heap.size) (1) (by first | omega | (simp <;> omega))).trans (show _ = some (.slice a1 n1 c1) by first | (with_reducible assumption) | go_simp); have p2 := (hx1.cells (w.heap.size) (2) (by first | omega | (simp <;> omega))).trans (show _ = some (.int .i64 c) by first | (with_reducible assumption) | go_simp); have p3 := (hx1.cells (w.heap.size) (3) (by first | omega | (simp <;> omega))).trans (show _ = some (.string s) by first | (with_reducible assumption) | go_simp); have p4 := (hx1.cells (w.heap.size) (4) (by first | omega | (simp <;> omega))).trans (show _ = some (.slice a2 n2 c2) by first | (with_reducible assumption) | go_simp); have p5 := (hx1.cells (w.heap.size) (5) (by first | omega | (simp <;> omega))).trans (show _ = some (.int .i64 e) by first | (with_reducible assumption) | go_simp); have p6 := (hx1.cells (w.heap.size) (6) (by first | omega | (simp <;> omega))).trans (show _ = some (.int .i64 mn) by first | (with_reducible assumption) | go_simp))
          | (go_at_call 62; (with_reducible refine (HK.out _ extA).mono ?_); rintro e' w2 ⟨rfl, hx2⟩; have hz2 := hx2.size; (try simp at hz2); have hb2_0 : w.heap.size < w2.heap.size := (by omega); have q0 := (hx2.cells (w.heap.size) (0) (by first | omega | (simp <;> omega))).trans (show _ = some (.int .i64 1) by first | (with_reducible assumption) | go_simp); have q1 := (hx2.cells (w.heap.size) (1) (by first | omega | (simp <;> omega))).trans (show _ = some (.slice a1 n1 c1) by first | (with_reducible assumption) | go_simp); have q2 := (hx2.cells (w.heap.size) (2) (by first | omega | (simp <;> omega))).trans (show _ = some (.int .i64 c) by first | (with_reducible assumption) | go_simp); have q3 := (hx2.cells (w.heap.size) (3) (by first | omega | (simp <;> omega))).trans (show _ = some (.string s) by first | (with_reducible assumption) | go_simp); have q4 := (hx2.cells (w.heap.size) (4) (by first | omega | (simp <;> omega))).trans (show _ = some (.slice a2 n2 c2) by first | (with_reducible assumption) | go_simp); have q5 := (hx2.cells (w.heap.size) (5) (by first | omega | (simp <;> omega))).trans (show _ = some (.int .i64 e) by first | (with_reducible assumption) | go_simp); have q6 := (hx2.cells (w.heap.size) (6) (by first | omega | (simp <;> omega))).trans (show _ = some (.int .i64 mn) by first | (with_reducible assumption) | go_simp))
          | (go_at_call 61; (with_reducible refine (HN2.out _ extA).mono ?_); rintro e' w4 ⟨rfl, hx4⟩; have hz4 := hx4.size; (try simp at hz4); have hb4_0 : w.heap.size < w4.heap.size := (by omega); have s0 := (hx4.cells (w.heap.size) (0) (by first | omega | (simp <;> omega))).trans (show _ = some (.int .i64 1) by first | (with_reducible assumption) | go_simp); have s1 := (hx4.cells (w.heap.size) (1) (by first | omega | (simp <;> omega))).trans (show _ = some (.slice a1 n1 c1) by first | (with_reducible assumption) | go_simp); have s2 := (hx4.cells (w.heap.size) (2) (by first | omega | (simp <;> omega))).trans (show _ = some (.int .i64 c) by first | (with_reducible assumption) | go_simp); have s3 := (hx4.cells (w.heap.size) (3) (by first | omega | (simp <;> omega))).trans (show _ = some (.string s) by first | (with_reducible assumption) | go_simp); have s4 := (hx4.cells (w.heap.size) (4) (by first | omega | (simp <;> omega))).trans (show _ = some (.slice a2 n2 c2) by first | (with_reducible assumption) | go_simp); have s5 := (hx4.cells (w.heap.size) (5) (by first | omega | (simp <;> omega))).trans (show _ = some (.int .i64 e) by first | (with_reducible assumption) | go_simp); have s6 := (hx4.cells (w.heap.size) (6) (by first | omega | (simp <;> omega))).trans (show _ = some (.int .i64 mn) by first | (with_reducible assumption) | go_simp))
          | (go_at_call 61; (with_reducible refine (HN1.out _ extA).mono ?_); rintro e' w3 ⟨rfl, hx3⟩; have hz3 := hx3.size; (try simp at hz3); have hb3_0 : w.heap.size < w3.heap.size := (by omega); have r0 := (hx3.cells (w.heap.size) (0) (by first | omega | (simp <;> omega))).trans (show _ = some (.int .i64 1) by first | (with_reducible assumption) | go_simp); have r1 := (hx3.cells (w.heap.size) (1) (by first | omega | (simp <;> omega))).trans (show _ = some (.slice a1 n1 c1) by first | (with_reducible assumption) | go_simp); have r2 := (hx3.cells (w.heap.size) (2) (by first | omega | (simp <;> omega))).trans (show _ = some (.int .i64 c) by first | (with_reducible assumption) | go_simp); have r3 := (hx3.cells (w.heap.size) (3) (by first | omega | (simp <;> omega))).trans (show _ = some (.string s) by first | (with_reducible assumption) | go_simp); have r4 := (hx3.cells (w.heap.size) (4) (by first | omega | (simp <;> omega))).trans (show _ = some (.slice a2 n2 c2) by first | (with_reducible assumption) | go_simp); have r5 := (hx3.cells (w.heap.size) (5) (by first | omega | (simp <;> omega))).trans (show _ = some (.int .i64 e) by first | (with_reducible assumption) | go_simp); have r6 := (hx3.cells (w.heap.size) (6) (by first | omega | (simp <;> omega))).trans (show _ = some (.int .i64 mn) by first | (with_reducible assumption) | go_simp))
          | (go_at_call 63; (with_reducible refine (HX.out _ extA).mono ?_); rintro e' w5 ⟨cs5, rfl, hm5, hx5⟩; obtain ⟨v5, rfl, hv5, _⟩ := hm5; obtain ⟨a5, n5, c5, rfl⟩ := hv5.slice; clear hv5))
        go_ret
        exact ⟨rfl, extA⟩
      | true =>
        rw [g] at HN2
        clear HN1 HK
        by_cases h1 : mn = 0
        · rw [checkD_put_ok rfl H0.out g h1]
          have t1 : (mn != 0) = false := by simpa using h1
          clear h1
          go_enter Try.func43, Try.ntmps43
          go_wp2_with (first
            | (go_at_call 60; (with_reducible refine (HR.out _ extA).mono ?_); rintro e' w1 ⟨rfl, hx1⟩; have hz1 := hx1.size; (try simp at hz1); have hb1_0 : w.heap.size < w1.heap.size := (by omega); have p0 := (hx1.cells (w.heap.size) (0) (by first | omega | (simp <;> omega))).trans (show _ = some (.int .i64 1) by first | (with_reducible assumption) | go_simp); have p1 := (hx1.cells (w.heap.size) (1) (by first | omega | (simp <;> omega))).trans (show _ = some (.slice a1 n1 c1) by first | (with_reducible assumption) | go_simp); have p2 := (hx1.cells (w.heap.size) (2) (by first | omega | (simp <;> omega))).trans (show _ = some (.int .i64 c) by first | (with_reducible assumption) | go_simp); have p3 := (hx1.cells (w.heap.size) (3) (by first | omega | (simp <;> omega))).trans (show _ = some (.string s) by first | (with_reducible assumption) | go_simp); have p4 := (hx1.cells (w.heap.size) (4) (by first | omega | (simp <;> omega))).trans (show _ = some (.slice a2 n2 c2) by first | (with_reducible assumption) | go_simp); have p5 := (hx1.cells (w.heap.size) (5) (by first | omega | (simp <;> omega))).trans (show _ = some (.int .i64 e) by first | (with_reducible assumption) | go_simp); have p6 := (hx1.cells (w.heap.size) (6) (by first | omega | (simp <;> omega))).trans (show _ = some (.int .i64 mn) by first | (with_reducible assumption) | go_simp))
            | (go_at_call 62; (with_reducible refine (HK.out _ extA).mono ?_); rintro e' w2 ⟨rfl, hx2⟩; have hz2 := hx2.size; (try simp at hz2); have hb2_0 : w.heap.size < w2.heap.size := (by omega); have q0 := (hx2.cells (w.heap.size) (0) (by first | omega | (simp <;> omega))).trans (show _ = some (.int .i64 1) by first | (with_reducible assumption) | go_simp); have q1 := (hx2.cells (w.heap.size) (1) (by first | omega | (simp <;> omega))).trans (show _ = some (.slice a1 n1 c1) by first | (with_reducible assumption) | go_simp); have q2 := (hx2.cells (w.heap.size) (2) (by first | omega | (simp <;> omega))).trans (show _ = some (.int .i64 c) by first | (with_reducible assumption) | go_simp); have q3 := (hx2.cells (w.heap.size) (3) (by first | omega | (simp <;> omega))).trans (show _ = some (.string s) by first | (with_reducible assumption) | go_simp); have q4 := (hx2.cells (w.heap.size) (4) (by first | omega | (simp <;> omega))).trans (show _ = some (.slice a2 n2 c2) by first | (with_reducible assumption) | go_simp); have q5 := (hx2.cells (w.heap.size) (5) (by first | omega | (simp <;> omega))).trans (show _ = some (.int .i64 e) by first | (with_reducible assumption) | go_simp); have q6 := (hx2.cells (w.heap.size) (6) (by first | omega | (simp <;> omega))).trans (show _ = some (.int .i64 mn) by first | (with_reducible assumption) | go_simp))
            | (go_at_call 61; (with_reducible refine (HN2.out _ extA).mono ?_); rintro e' w4 ⟨rfl, hx4⟩; have hz4 := hx4.size; (try simp at hz4); have hb4_0 : w.heap.size < w4.heap.size := (by omega); have s0 := (hx4.cells (w.heap.size) (0) (by first | omega | (simp <;> omega))).trans (show _ = some (.int .i64 1) by first | (with_reducible assumption) | go_simp); have s1 := (hx4.cells (w.heap.size) (1) (by first | omega | (simp <;> omega))).trans (show _ = some (.slice a1 n1 c1) by first | (with_reducible assumption) | go_simp); have s2 := (hx4.cells (w.heap.size) (2) (by first | omega | (simp <;> omega))).trans (show _ = some (.int .i64 c) by first | (with_reducible assumption) | go_simp); have s3 := (hx4.cells (w.heap.size) (3) (by first | omega | (simp <;> omega))).trans (show _ = some (.string s) by first | (with_reducible assumption) | go_simp); have s4 := (hx4.cells (w.heap.size) (4) (by first | omega | (simp <;> omega))).trans (show _ = some (.slice a2 n2 c2) by first | (with_reducible assumption) | go_simp); have s5 := (hx4.cells (w.heap.size) (5) (by first | omega | (simp <;> omega))).trans (show _ = some (.int .i64 e) by first | (with_reducible assumption) | go_simp); have s6 := (hx4.cells (w.heap.size) (6) (by first | omega | (simp <;> omega))).trans (show _ = some (.int .i64 mn) by first | (with_reducible assumption) | go_simp))
            | (go_at_call 61; (with_reducible refine (HN1.out _ extA).mono ?_); rintro e' w3 ⟨rfl, hx3⟩; have hz3 := hx3.size; (try simp at hz3); have hb3_0 : w.heap.size < w3.heap.size := (by omega); have r0 := (hx3.cells (w.heap.size) (0) (by first | omega | (simp <;> omega))).trans (show _ = some (.int .i64 1) by first | (with_reducible assumption) | go_simp); have r1 := (hx3.cells (w.heap.size) (1) (by first | omega | (simp <;> omega))).trans (show _ = some (.slice a1 n1 c1) by first | (with_reducible assumption) | go_simp); have r2 := (hx3.cells (w.heap.size) (2) (by first | omega | (simp <;> omega))).trans (show _ = some (.int .i64 c) by first | (with_reducible assumption) | go_simp); have r3 := (hx3.cells (w.heap.size) (3) (by first | omega | (simp <;> omega))).trans (show _ = some (.string s) by first | (with_reducible assumption) | go_simp); have r4 := (hx3.cells (w.heap.size) (4) (by first | omega | (simp <;> omega))).trans (show _ = some (.slice a2 n2 c2) by first | (with_reducible assumption) | go_simp); have r5 := (hx3.cells (w.heap.size) (5) (by first | omega | (simp <;> omega))).trans (show _ = some (.int .i64 e) by first | (with_reducible assumption) | go_simp); have r6 := (hx3.cells (w.heap.size) (6) (by first | omega | (simp <;> omega))).trans (show _ = some (.int .i64 mn) by first | (with_reducible assumption) | go_simp))
            | (go_at_call 63; (with_reducible refine (HX.out _ extA).mono ?_); rintro e' w5 ⟨cs5, rfl, hm5, hx5⟩; obtain ⟨v5, rfl, hv5, _⟩ := hm5; obtain ⟨a5, n5, c5, rfl⟩ := hv5.slice; clear hv5))
          go_ret
          exact ⟨rfl, extA⟩
        · rw [checkD_put_form rfl H0.out (.inr h1)]
          have t1 : (mn != 0) = true := by simpa using h1
          clear h1
          go_enter Try.func43, Try.ntmps43
          go_wp2_with (first
            | (go_at_call 60; (with_reducible refine (HR.out _ extA).mono ?_); rintro e' w1 ⟨rfl, hx1⟩; have hz1 := hx1.size; (try simp at hz1); have hb1_0 : w.heap.size < w1.heap.size := (by omega); have p0 := (hx1.cells (w.heap.size) (0) (by first | omega | (simp <;> omega))).trans (show _ = some (.int .i64 1) by first | (with_reducible assumption) | go_simp); have p1 := (hx1.cells (w.heap.size) (1) (by first | omega | (simp <;> omega))).trans (show _ = some (.slice a1 n1 c1) by first | (with_reducible assumption) | go_simp); have p2 := (hx1.cells (w.heap.size) (2) (by first | omega | (simp <;> omega))).trans (show _ = some (.int .i64 c) by first | (with_reducible assumption) | go_simp); have p3 := (hx1.cells (w.heap.size) (3) (by first | omega | (simp <;> omega))).trans (show _ = some (.string s) by first | (with_reducible assumption) | go_simp); have p4 := (hx1.cells (w.heap.size) (4) (by first | omega | (simp <;> omega))).trans (show _ = some (.slice a2 n2 c2) by first | (with_reducible assumption) | go_simp); have p5 := (hx1.cells (w.heap.size) (5) (by first | omega | (simp <;> omega))).trans (show _ = some (.int .i64 e) by first | (with_reducible assumption) | go_simp); have p6 := (hx1.cells (w.heap.size) (6) (by first | omega | (simp <;> omega))).trans (show _ = some (.int .i64 mn) by first | (with_reducible assumption) | go_simp))
            | (go_at_call 62; (with_reducible refine (HK.out _ extA).mono ?_); rintro e' w2 ⟨rfl, hx2⟩; have hz2 := hx2.size; (try simp at hz2); have hb2_0 : w.heap.size < w2.heap.size := (by omega); have q0 := (hx2.cells (w.heap.size) (0) (by first | omega | (simp <;> omega))).trans (show _ = some (.int .i64 1) by first | (with_reducible assumption) | go_simp); have q1 := (hx2.cells (w.heap.size) (1) (by first | omega | (simp <;> omega))).trans (show _ = some (.slice a1 n1 c1) by first | (with_reducible assumption) | go_simp); have q2 := (hx2.cells (w.heap.size) (2) (by first | omega | (simp <;> omega))).trans (show _ = some (.int .i64 c) by first | (with_reducible assumption) | go_simp); have q3 := (hx2.cells (w.heap.size) (3) (by first | omega | (simp <;> omega))).trans (show _ = some (.string s) by first | (with_reducible assumption) | go_simp); have q4 := (hx2.cells (w.heap.size) (4) (by first | omega | (simp <;> omega))).trans (show _ = some (.slice a2 n2 c2) by first | (with_reducible assumption) | go_simp); have q5 := (hx2.cells (w.heap.size) (5) (by first | omega | (simp <;> omega))).trans (show _ = some (.int .i64 e) by first | (with_reducible assumption) | go_simp); have q6 := (hx2.cells (w.heap.size) (6) (by first | omega | (simp <;> omega))).trans (show _ = some (.int .i64 mn) by first | (with_reducible assumption) | go_simp))
            | (go_at_call 61; (with_reducible refine (HN2.out _ extA).mono ?_); rintro e' w4 ⟨rfl, hx4⟩; have hz4 := hx4.size; (try simp at hz4); have hb4_0 : w.heap.size < w4.heap.size := (by omega); have s0 := (hx4.cells (w.heap.size) (0) (by first | omega | (simp <;> omega))).trans (show _ = some (.int .i64 1) by first | (with_reducible assumption) | go_simp); have s1 := (hx4.cells (w.heap.size) (1) (by first | omega | (simp <;> omega))).trans (show _ = some (.slice a1 n1 c1) by first | (with_reducible assumption) | go_simp); have s2 := (hx4.cells (w.heap.size) (2) (by first | omega | (simp <;> omega))).trans (show _ = some (.int .i64 c) by first | (with_reducible assumption) | go_simp); have s3 := (hx4.cells (w.heap.size) (3) (by first | omega | (simp <;> omega))).trans (show _ = some (.string s) by first | (with_reducible assumption) | go_simp); have s4 := (hx4.cells (w.heap.size) (4) (by first | omega | (simp <;> omega))).trans (show _ = some (.slice a2 n2 c2) by first | (with_reducible assumption) | go_simp); have s5 := (hx4.cells (w.heap.size) (5) (by first | omega | (simp <;> omega))).trans (show _ = some (.int .i64 e) by first | (with_reducible assumption) | go_simp); have s6 := (hx4.cells (w.heap.size) (6) (by first | omega | (simp <;> omega))).trans (show _ = some (.int .i64 mn) by first | (with_reducible assumption) | go_simp))
            | (go_at_call 61; (with_reducible refine (HN1.out _ extA).mono ?_); rintro e' w3 ⟨rfl, hx3⟩; have hz3 := hx3.size; (try simp at hz3); have hb3_0 : w.heap.size < w3.heap.size := (by omega); have r0 := (hx3.cells (w.heap.size) (0) (by first | omega | (simp <;> omega))).trans (show _ = some (.int .i64 1) by first | (with_reducible assumption) | go_simp); have r1 := (hx3.cells (w.heap.size) (1) (by first | omega | (simp <;> omega))).trans (show _ = some (.slice a1 n1 c1) by first | (with_reducible assumption) | go_simp); have r2 := (hx3.cells (w.heap.size) (2) (by first | omega | (simp <;> omega))).trans (show _ = some (.int .i64 c) by first | (with_reducible assumption) | go_simp); have r3 := (hx3.cells (w.heap.size) (3) (by first | omega | (simp <;> omega))).trans (show _ = some (.string s) by first | (with_reducible assumption) | go_simp); have r4 := (hx3.cells (w.heap.size) (4) (by first | omega | (simp <;> omega))).trans (show _ = some (.slice a2 n2 c2) by first | (with_reducible assumption) | go_simp); have r5 := (hx3.cells (w.heap.size) (5) (by first | omega | (simp <;> omega))).trans (show _ = some (.int .i64 e) by first | (with_reducible assumption) | go_simp); have r6 := (hx3.cells (w.heap.size) (6) (by first | omega | (simp <;> omega))).trans (show _ = some (.int .i64 mn) by first | (with_reducible assumption) | go_simp))
            | (go_at_call 63; (with_reducible refine (HX.out _ extA).mono ?_); rintro e' w5 ⟨cs5, rfl, hm5, hx5⟩; obtain ⟨v5, rfl, hv5, _⟩ := hm5; obtain ⟨a5, n5, c5, rfl⟩ := hv5.slice; clear hv5))
          go_ret
          exact ⟨rfl, extA⟩
    · rw [checkD_put_bad rfl h0]
      simp only
      have t1 : (checkR ((l, c), s.data.toList) != 0) = true := by simpa using h0
      have t2 : (checkR ((l, c), s.data.toList) == 0) = false := by simpa using h0
      generalize checkR ((l, c), s.data.toList) = r at *
      clear h0
      go_enter Try.func43, Try.ntmps43
      go_wp2_with (first
        | (go_at_call 60; (with_reducible refine (HR.out _ extA).mono ?_); rintro e' w1 ⟨rfl, hx1⟩; have hz1 := hx1.size; (try simp at hz1); have hb1_0 : w.heap.size < w1.heap.size := (by omega); have p0 := (hx1.cells (w.heap.size) (0) (by first | omega | (simp <;> omega))).trans (show _ = some (.int .i64 1) by first | (with_reducible assumption) | go_simp); have p1 := (hx1.cells (w.heap.size) (1) (by first | omega | (simp <;> omega))).trans (show _ = some (.slice a1 n1 c1) by first | (with_reducible assumption) | go_simp); have p2 := (hx1.cells (w.heap.size) (2) (by first | omega | (simp <;> omega))).trans (show _ = some (.int .i64 c) by first | (with_reducible assumption) | go_simp); have p3 := (hx1.cells (w.heap.size) (3) (by first | omega | (simp <;> omega))).trans (show _ = some (.string s) by first | (with_reducible assumption) | go_simp); have p4 := (hx1.cells (w.heap.size) (4) (by first | omega | (simp <;> omega))).trans (show _ = some (.slice a2 n2 c2) by first | (with_reducible assumption) | go_simp); have p5 := (hx1.cells (w.heap.size) (5) (by first | omega | (simp <;> omega))).trans (show _ = some (.int .i64 e) by first | (with_reducible assumption) | go_simp); have p6 := (hx1.cells (w.heap.size) (6) (by first | omega | (simp <;> omega))).trans (show _ = some (.int .i64 mn) by first | (with_reducible assumption) | go_simp))
        | (go_at_call 62; (with_reducible refine (HK.out _ extA).mono ?_); rintro e' w2 ⟨rfl, hx2⟩; have hz2 := hx2.size; (try simp at hz2); have hb2_0 : w.heap.size < w2.heap.size := (by omega); have q0 := (hx2.cells (w.heap.size) (0) (by first | omega | (simp <;> omega))).trans (show _ = some (.int .i64 1) by first | (with_reducible assumption) | go_simp); have q1 := (hx2.cells (w.heap.size) (1) (by first | omega | (simp <;> omega))).trans (show _ = some (.slice a1 n1 c1) by first | (with_reducible assumption) | go_simp); have q2 := (hx2.cells (w.heap.size) (2) (by first | omega | (simp <;> omega))).trans (show _ = some (.int .i64 c) by first | (with_reducible assumption) | go_simp); have q3 := (hx2.cells (w.heap.size) (3) (by first | omega | (simp <;> omega))).trans (show _ = some (.string s) by first | (with_reducible assumption) | go_simp); have q4 := (hx2.cells (w.heap.size) (4) (by first | omega | (simp <;> omega))).trans (show _ = some (.slice a2 n2 c2) by first | (with_reducible assumption) | go_simp); have q5 := (hx2.cells (w.heap.size) (5) (by first | omega | (simp <;> omega))).trans (show _ = some (.int .i64 e) by first | (with_reducible assumption) | go_simp); have q6 := (hx2.cells (w.heap.size) (6) (by first | omega | (simp <;> omega))).trans (show _ = some (.int .i64 mn) by first | (with_reducible assumption) | go_simp))
        | (go_at_call 61; (with_reducible refine (HN2.out _ extA).mono ?_); rintro e' w4 ⟨rfl, hx4⟩; have hz4 := hx4.size; (try simp at hz4); have hb4_0 : w.heap.size < w4.heap.size := (by omega); have s0 := (hx4.cells (w.heap.size) (0) (by first | omega | (simp <;> omega))).trans (show _ = some (.int .i64 1) by first | (with_reducible assumption) | go_simp); have s1 := (hx4.cells (w.heap.size) (1) (by first | omega | (simp <;> omega))).trans (show _ = some (.slice a1 n1 c1) by first | (with_reducible assumption) | go_simp); have s2 := (hx4.cells (w.heap.size) (2) (by first | omega | (simp <;> omega))).trans (show _ = some (.int .i64 c) by first | (with_reducible assumption) | go_simp); have s3 := (hx4.cells (w.heap.size) (3) (by first | omega | (simp <;> omega))).trans (show _ = some (.string s) by first | (with_reducible assumption) | go_simp); have s4 := (hx4.cells (w.heap.size) (4) (by first | omega | (simp <;> omega))).trans (show _ = some (.slice a2 n2 c2) by first | (with_reducible assumption) | go_simp); have s5 := (hx4.cells (w.heap.size) (5) (by first | omega | (simp <;> omega))).trans (show _ = some (.int .i64 e) by first | (with_reducible assumption) | go_simp); have s6 := (hx4.cells (w.heap.size) (6) (by first | omega | (simp <;> omega))).trans (show _ = some (.int .i64 mn) by first | (with_reducible assumption) | go_simp))
        | (go_at_call 61; (with_reducible refine (HN1.out _ extA).mono ?_); rintro e' w3 ⟨rfl, hx3⟩; have hz3 := hx3.size; (try simp at hz3); have hb3_0 : w.heap.size < w3.heap.size := (by omega); have r0 := (hx3.cells (w.heap.size) (0) (by first | omega | (simp <;> omega))).trans (show _ = some (.int .i64 1) by first | (with_reducible assumption) | go_simp); have r1 := (hx3.cells (w.heap.size) (1) (by first | omega | (simp <;> omega))).trans (show _ = some (.slice a1 n1 c1) by first | (with_reducible assumption) | go_simp); have r2 := (hx3.cells (w.heap.size) (2) (by first | omega | (simp <;> omega))).trans (show _ = some (.int .i64 c) by first | (with_reducible assumption) | go_simp); have r3 := (hx3.cells (w.heap.size) (3) (by first | omega | (simp <;> omega))).trans (show _ = some (.string s) by first | (with_reducible assumption) | go_simp); have r4 := (hx3.cells (w.heap.size) (4) (by first | omega | (simp <;> omega))).trans (show _ = some (.slice a2 n2 c2) by first | (with_reducible assumption) | go_simp); have r5 := (hx3.cells (w.heap.size) (5) (by first | omega | (simp <;> omega))).trans (show _ = some (.int .i64 e) by first | (with_reducible assumption) | go_simp); have r6 := (hx3.cells (w.heap.size) (6) (by first | omega | (simp <;> omega))).trans (show _ = some (.int .i64 mn) by first | (with_reducible assumption) | go_simp))
        | (go_at_call 63; (with_reducible refine (HX.out _ extA).mono ?_); rintro e' w5 ⟨cs5, rfl, hm5, hx5⟩; obtain ⟨v5, rfl, hv5, _⟩ := hm5; obtain ⟨a5, n5, c5, rfl⟩ := hv5.slice; clear hv5))
      go_ret
      exact ⟨rfl, extA⟩
  · have t0 : (kd == 1) = false := by simpa using k1
    by_cases k2 : kd = 2
    · subst k2
      by_cases h0 : checkM (m, e) = 0
      · have H0 := Lib.hid h0
        rw [h0] at HK
        clear h0
        cases g : noneM (l, c) with
        | false =>
          rw [checkD_take_form k1 rfl H0.out (.inl g)]
          rw [g] at HN1
          clear k1 HN2
          go_enter Try.func43, Try.ntmps43
          go_wp2_with (first
            | (go_at_call 60; (with_reducible refine (HR.out _ extA).mono ?_); rintro e' w1 ⟨rfl, hx1⟩; have hz1 := hx1.size; (try simp at hz1); have hb1_0 : w.heap.size < w1.heap.size := (by omega); have p0 := (hx1.cells (w.heap.size) (0) (by first | omega | (simp <;> omega))).trans (show _ = some (.int .i64 2) by first | (with_reducible assumption) | go_simp); have p1 := (hx1.cells (w.heap.size) (1) (by first | omega | (simp <;> omega))).trans (show _ = some (.slice a1 n1 c1) by first | (with_reducible assumption) | go_simp); have p2 := (hx1.cells (w.heap.size) (2) (by first | omega | (simp <;> omega))).trans (show _ = some (.int .i64 c) by first | (with_reducible assumption) | go_simp); have p3 := (hx1.cells (w.heap.size) (3) (by first | omega | (simp <;> omega))).trans (show _ = some (.string s) by first | (with_reducible assumption) | go_simp); have p4 := (hx1.cells (w.heap.size) (4) (by first | omega | (simp <;> omega))).trans (show _ = some (.slice a2 n2 c2) by first | (with_reducible assumption) | go_simp); have p5 := (hx1.cells (w.heap.size) (5) (by first | omega | (simp <;> omega))).trans (show _ = some (.int .i64 e) by first | (with_reducible assumption) | go_simp); have p6 := (hx1.cells (w.heap.size) (6) (by first | omega | (simp <;> omega))).trans (show _ = some (.int .i64 mn) by first | (with_reducible assumption) | go_simp))
            | (go_at_call 62; (with_reducible refine (HK.out _ extA).mono ?_); rintro e' w2 ⟨rfl, hx2⟩; have hz2 := hx2.size; (try simp at hz2); have hb2_0 : w.heap.size < w2.heap.size := (by omega); have q0 := (hx2.cells (w.heap.size) (0) (by first | omega | (simp <;> omega))).trans (show _ = some (.int .i64 2) by first | (with_reducible assumption) | go_simp); have q1 := (hx2.cells (w.heap.size) (1) (by first | omega | (simp <;> omega))).trans (show _ = some (.slice a1 n1 c1) by first | (with_reducible assumption) | go_simp); have q2 := (hx2.cells (w.heap.size) (2) (by first | omega | (simp <;> omega))).trans (show _ = some (.int .i64 c) by first | (with_reducible assumption) | go_simp); have q3 := (hx2.cells (w.heap.size) (3) (by first | omega | (simp <;> omega))).trans (show _ = some (.string s) by first | (with_reducible assumption) | go_simp); have q4 := (hx2.cells (w.heap.size) (4) (by first | omega | (simp <;> omega))).trans (show _ = some (.slice a2 n2 c2) by first | (with_reducible assumption) | go_simp); have q5 := (hx2.cells (w.heap.size) (5) (by first | omega | (simp <;> omega))).trans (show _ = some (.int .i64 e) by first | (with_reducible assumption) | go_simp); have q6 := (hx2.cells (w.heap.size) (6) (by first | omega | (simp <;> omega))).trans (show _ = some (.int .i64 mn) by first | (with_reducible assumption) | go_simp))
            | (go_at_call 61; (with_reducible refine (HN2.out _ extA).mono ?_); rintro e' w4 ⟨rfl, hx4⟩; have hz4 := hx4.size; (try simp at hz4); have hb4_0 : w.heap.size < w4.heap.size := (by omega); have s0 := (hx4.cells (w.heap.size) (0) (by first | omega | (simp <;> omega))).trans (show _ = some (.int .i64 2) by first | (with_reducible assumption) | go_simp); have s1 := (hx4.cells (w.heap.size) (1) (by first | omega | (simp <;> omega))).trans (show _ = some (.slice a1 n1 c1) by first | (with_reducible assumption) | go_simp); have s2 := (hx4.cells (w.heap.size) (2) (by first | omega | (simp <;> omega))).trans (show _ = some (.int .i64 c) by first | (with_reducible assumption) | go_simp); have s3 := (hx4.cells (w.heap.size) (3) (by first | omega | (simp <;> omega))).trans (show _ = some (.string s) by first | (with_reducible assumption) | go_simp); have s4 := (hx4.cells (w.heap.size) (4) (by first | omega | (simp <;> omega))).trans (show _ = some (.slice a2 n2 c2) by first | (with_reducible assumption) | go_simp); have s5 := (hx4.cells (w.heap.size) (5) (by first | omega | (simp <;> omega))).trans (show _ = some (.int .i64 e) by first | (with_reducible assumption) | go_simp); have s6 := (hx4.cells (w.heap.size) (6) (by first | omega | (simp <;> omega))).trans (show _ = some (.int .i64 mn) by first | (with_reducible assumption) | go_simp))
            | (go_at_call 61; (with_reducible refine (HN1.out _ extA).mono ?_); rintro e' w3 ⟨rfl, hx3⟩; have hz3 := hx3.size; (try simp at hz3); have hb3_0 : w.heap.size < w3.heap.size := (by omega); have r0 := (hx3.cells (w.heap.size) (0) (by first | omega | (simp <;> omega))).trans (show _ = some (.int .i64 2) by first | (with_reducible assumption) | go_simp); have r1 := (hx3.cells (w.heap.size) (1) (by first | omega | (simp <;> omega))).trans (show _ = some (.slice a1 n1 c1) by first | (with_reducible assumption) | go_simp); have r2 := (hx3.cells (w.heap.size) (2) (by first | omega | (simp <;> omega))).trans (show _ = some (.int .i64 c) by first | (with_reducible assumption) | go_simp); have r3 := (hx3.cells (w.heap.size) (3) (by first | omega | (simp <;> omega))).trans (show _ = some (.string s) by first | (with_reducible assumption) | go_simp); have r4 := (hx3.cells (w.heap.size) (4) (by first | omega | (simp <;> omega))).trans (show _ = some (.slice a2 n2 c2) by first | (with_reducible assumption) | go_simp); have r5 := (hx3.cells (w.heap.size) (5) (by first | omega | (simp <;> omega))).trans (show _ = some (.int .i64 e) by first | (with_reducible assumption) | go_simp); have r6 := (hx3.cells (w.heap.size) (6) (by first | omega | (simp <;> omega))).trans (show _ = some (.int .i64 mn) by first | (with_reducible assumption) | go_simp))
            | (go_at_call 63; (with_reducible refine (HX.out _ extA).mono ?_); rintro e' w5 ⟨cs5, rfl, hm5, hx5⟩; obtain ⟨v5, rfl, hv5, _⟩ := hm5; obtain ⟨a5, n5, c5, rfl⟩ := hv5.slice; clear hv5))
          go_ret
          exact ⟨rfl, extA⟩
        | true =>
          rw [g] at HN1
          clear HN2
          by_cases h1 : s.size = 0
          · have t1 : s.toList.isEmpty = true := empty_yes h1
            by_cases h2 : mn < 1 ∨ 60 < mn
            · rw [checkD_take_range k1 rfl H0.out g (bytes_nil h1) h2]
              have t3 : inB mn 1 60 = false := by unfold inB; simp; omega
              rcases h2 with h2 | h2
              · have t2 : decide (mn < 1) = true := decide_eq_true h2
                clear k1 h1
                go_enter Try.func43, Try.ntmps43
                go_wp2_with (first
                  | (go_at_call 60; (with_reducible refine (HR.out _ extA).mono ?_); rintro e' w1 ⟨rfl, hx1⟩; have hz1 := hx1.size; (try simp at hz1); have hb1_0 : w.heap.size < w1.heap.size := (by omega); have p0 := (hx1.cells (w.heap.size) (0) (by first | omega | (simp <;> omega))).trans (show _ = some (.int .i64 2) by first | (with_reducible assumption) | go_simp); have p1 := (hx1.cells (w.heap.size) (1) (by first | omega | (simp <;> omega))).trans (show _ = some (.slice a1 n1 c1) by first | (with_reducible assumption) | go_simp); have p2 := (hx1.cells (w.heap.size) (2) (by first | omega | (simp <;> omega))).trans (show _ = some (.int .i64 c) by first | (with_reducible assumption) | go_simp); have p3 := (hx1.cells (w.heap.size) (3) (by first | omega | (simp <;> omega))).trans (show _ = some (.string s) by first | (with_reducible assumption) | go_simp); have p4 := (hx1.cells (w.heap.size) (4) (by first | omega | (simp <;> omega))).trans (show _ = some (.slice a2 n2 c2) by first | (with_reducible assumption) | go_simp); have p5 := (hx1.cells (w.heap.size) (5) (by first | omega | (simp <;> omega))).trans (show _ = some (.int .i64 e) by first | (with_reducible assumption) | go_simp); have p6 := (hx1.cells (w.heap.size) (6) (by first | omega | (simp <;> omega))).trans (show _ = some (.int .i64 mn) by first | (with_reducible assumption) | go_simp))
                  | (go_at_call 62; (with_reducible refine (HK.out _ extA).mono ?_); rintro e' w2 ⟨rfl, hx2⟩; have hz2 := hx2.size; (try simp at hz2); have hb2_0 : w.heap.size < w2.heap.size := (by omega); have q0 := (hx2.cells (w.heap.size) (0) (by first | omega | (simp <;> omega))).trans (show _ = some (.int .i64 2) by first | (with_reducible assumption) | go_simp); have q1 := (hx2.cells (w.heap.size) (1) (by first | omega | (simp <;> omega))).trans (show _ = some (.slice a1 n1 c1) by first | (with_reducible assumption) | go_simp); have q2 := (hx2.cells (w.heap.size) (2) (by first | omega | (simp <;> omega))).trans (show _ = some (.int .i64 c) by first | (with_reducible assumption) | go_simp); have q3 := (hx2.cells (w.heap.size) (3) (by first | omega | (simp <;> omega))).trans (show _ = some (.string s) by first | (with_reducible assumption) | go_simp); have q4 := (hx2.cells (w.heap.size) (4) (by first | omega | (simp <;> omega))).trans (show _ = some (.slice a2 n2 c2) by first | (with_reducible assumption) | go_simp); have q5 := (hx2.cells (w.heap.size) (5) (by first | omega | (simp <;> omega))).trans (show _ = some (.int .i64 e) by first | (with_reducible assumption) | go_simp); have q6 := (hx2.cells (w.heap.size) (6) (by first | omega | (simp <;> omega))).trans (show _ = some (.int .i64 mn) by first | (with_reducible assumption) | go_simp))
                  | (go_at_call 61; (with_reducible refine (HN2.out _ extA).mono ?_); rintro e' w4 ⟨rfl, hx4⟩; have hz4 := hx4.size; (try simp at hz4); have hb4_0 : w.heap.size < w4.heap.size := (by omega); have s0 := (hx4.cells (w.heap.size) (0) (by first | omega | (simp <;> omega))).trans (show _ = some (.int .i64 2) by first | (with_reducible assumption) | go_simp); have s1 := (hx4.cells (w.heap.size) (1) (by first | omega | (simp <;> omega))).trans (show _ = some (.slice a1 n1 c1) by first | (with_reducible assumption) | go_simp); have s2 := (hx4.cells (w.heap.size) (2) (by first | omega | (simp <;> omega))).trans (show _ = some (.int .i64 c) by first | (with_reducible assumption) | go_simp); have s3 := (hx4.cells (w.heap.size) (3) (by first | omega | (simp <;> omega))).trans (show _ = some (.string s) by first | (with_reducible assumption) | go_simp); have s4 := (hx4.cells (w.heap.size) (4) (by first | omega | (simp <;> omega))).trans (show _ = some (.slice a2 n2 c2) by first | (with_reducible assumption) | go_simp); have s5 := (hx4.cells (w.heap.size) (5) (by first | omega | (simp <;> omega))).trans (show _ = some (.int .i64 e) by first | (with_reducible assumption) | go_simp); have s6 := (hx4.cells (w.heap.size) (6) (by first | omega | (simp <;> omega))).trans (show _ = some (.int .i64 mn) by first | (with_reducible assumption) | go_simp))
                  | (go_at_call 61; (with_reducible refine (HN1.out _ extA).mono ?_); rintro e' w3 ⟨rfl, hx3⟩; have hz3 := hx3.size; (try simp at hz3); have hb3_0 : w.heap.size < w3.heap.size := (by omega); have r0 := (hx3.cells (w.heap.size) (0) (by first | omega | (simp <;> omega))).trans (show _ = some (.int .i64 2) by first | (with_reducible assumption) | go_simp); have r1 := (hx3.cells (w.heap.size) (1) (by first | omega | (simp <;> omega))).trans (show _ = some (.slice a1 n1 c1) by first | (with_reducible assumption) | go_simp); have r2 := (hx3.cells (w.heap.size) (2) (by first | omega | (simp <;> omega))).trans (show _ = some (.int .i64 c) by first | (with_reducible assumption) | go_simp); have r3 := (hx3.cells (w.heap.size) (3) (by first | omega | (simp <;> omega))).trans (show _ = some (.string s) by first | (with_reducible assumption) | go_simp); have r4 := (hx3.cells (w.heap.size) (4) (by first | omega | (simp <;> omega))).trans (show _ = some (.slice a2 n2 c2) by first | (with_reducible assumption) | go_simp); have r5 := (hx3.cells (w.heap.size) (5) (by first | omega | (simp <;> omega))).trans (show _ = some (.int .i64 e) by first | (with_reducible assumption) | go_simp); have r6 := (hx3.cells (w.heap.size) (6) (by first | omega | (simp <;> omega))).trans (show _ = some (.int .i64 mn) by first | (with_reducible assumption) | go_simp))
                  | (go_at_call 63; (with_reducible refine (HX.out _ extA).mono ?_); rintro e' w5 ⟨cs5, rfl, hm5, hx5⟩; obtain ⟨v5, rfl, hv5, _⟩ := hm5; obtain ⟨a5, n5, c5, rfl⟩ := hv5.slice; clear hv5))
                go_ret
                exact ⟨rfl, extA⟩
              · have t2 : decide (mn < 1) = false := decide_eq_false (by omega)
                have t4 : decide (60 < mn) = true := decide_eq_true h2
                clear k1 h1
                go_enter Try.func43, Try.ntmps43
                go_wp2_with (first
                  | (go_at_call 60; (with_reducible refine (HR.out _ extA).mono ?_); rintro e' w1 ⟨rfl, hx1⟩; have hz1 := hx1.size; (try simp at hz1); have hb1_0 : w.heap.size < w1.heap.size := (by omega); have p0 := (hx1.cells (w.heap.size) (0) (by first | omega | (simp <;> omega))).trans (show _ = some (.int .i64 2) by first | (with_reducible assumption) | go_simp); have p1 := (hx1.cells (w.heap.size) (1) (by first | omega | (simp <;> omega))).trans (show _ = some (.slice a1 n1 c1) by first | (with_reducible assumption) | go_simp); have p2 := (hx1.cells (w.heap.size) (2) (by first | omega | (simp <;> omega))).trans (show _ = some (.int .i64 c) by first | (with_reducible assumption) | go_simp); have p3 := (hx1.cells (w.heap.size) (3) (by first | omega | (simp <;> omega))).trans (show _ = some (.string s) by first | (with_reducible assumption) | go_simp); have p4 := (hx1.cells (w.heap.size) (4) (by first | omega | (simp <;> omega))).trans (show _ = some (.slice a2 n2 c2) by first | (with_reducible assumption) | go_simp); have p5 := (hx1.cells (w.heap.size) (5) (by first | omega | (simp <;> omega))).trans (show _ = some (.int .i64 e) by first | (with_reducible assumption) | go_simp); have p6 := (hx1.cells (w.heap.size) (6) (by first | omega | (simp <;> omega))).trans (show _ = some (.int .i64 mn) by first | (with_reducible assumption) | go_simp))
                  | (go_at_call 62; (with_reducible refine (HK.out _ extA).mono ?_); rintro e' w2 ⟨rfl, hx2⟩; have hz2 := hx2.size; (try simp at hz2); have hb2_0 : w.heap.size < w2.heap.size := (by omega); have q0 := (hx2.cells (w.heap.size) (0) (by first | omega | (simp <;> omega))).trans (show _ = some (.int .i64 2) by first | (with_reducible assumption) | go_simp); have q1 := (hx2.cells (w.heap.size) (1) (by first | omega | (simp <;> omega))).trans (show _ = some (.slice a1 n1 c1) by first | (with_reducible assumption) | go_simp); have q2 := (hx2.cells (w.heap.size) (2) (by first | omega | (simp <;> omega))).trans (show _ = some (.int .i64 c) by first | (with_reducible assumption) | go_simp); have q3 := (hx2.cells (w.heap.size) (3) (by first | omega | (simp <;> omega))).trans (show _ = some (.string s) by first | (with_reducible assumption) | go_simp); have q4 := (hx2.cells (w.heap.size) (4) (by first | omega | (simp <;> omega))).trans (show _ = some (.slice a2 n2 c2) by first | (with_reducible assumption) | go_simp); have q5 := (hx2.cells (w.heap.size) (5) (by first | omega | (simp <;> omega))).trans (show _ = some (.int .i64 e) by first | (with_reducible assumption) | go_simp); have q6 := (hx2.cells (w.heap.size) (6) (by first | omega | (simp <;> omega))).trans (show _ = some (.int .i64 mn) by first | (with_reducible assumption) | go_simp))
                  | (go_at_call 61; (with_reducible refine (HN2.out _ extA).mono ?_); rintro e' w4 ⟨rfl, hx4⟩; have hz4 := hx4.size; (try simp at hz4); have hb4_0 : w.heap.size < w4.heap.size := (by omega); have s0 := (hx4.cells (w.heap.size) (0) (by first | omega | (simp <;> omega))).trans (show _ = some (.int .i64 2) by first | (with_reducible assumption) | go_simp); have s1 := (hx4.cells (w.heap.size) (1) (by first | omega | (simp <;> omega))).trans (show _ = some (.slice a1 n1 c1) by first | (with_reducible assumption) | go_simp); have s2 := (hx4.cells (w.heap.size) (2) (by first | omega | (simp <;> omega))).trans (show _ = some (.int .i64 c) by first | (with_reducible assumption) | go_simp); have s3 := (hx4.cells (w.heap.size) (3) (by first | omega | (simp <;> omega))).trans (show _ = some (.string s) by first | (with_reducible assumption) | go_simp); have s4 := (hx4.cells (w.heap.size) (4) (by first | omega | (simp <;> omega))).trans (show _ = some (.slice a2 n2 c2) by first | (with_reducible assumption) | go_simp); have s5 := (hx4.cells (w.heap.size) (5) (by first | omega | (simp <;> omega))).trans (show _ = some (.int .i64 e) by first | (with_reducible assumption) | go_simp); have s6 := (hx4.cells (w.heap.size) (6) (by first | omega | (simp <;> omega))).trans (show _ = some (.int .i64 mn) by first | (with_reducible assumption) | go_simp))
                  | (go_at_call 61; (with_reducible refine (HN1.out _ extA).mono ?_); rintro e' w3 ⟨rfl, hx3⟩; have hz3 := hx3.size; (try simp at hz3); have hb3_0 : w.heap.size < w3.heap.size := (by omega); have r0 := (hx3.cells (w.heap.size) (0) (by first | omega | (simp <;> omega))).trans (show _ = some (.int .i64 2) by first | (with_reducible assumption) | go_simp); have r1 := (hx3.cells (w.heap.size) (1) (by first | omega | (simp <;> omega))).trans (show _ = some (.slice a1 n1 c1) by first | (with_reducible assumption) | go_simp); have r2 := (hx3.cells (w.heap.size) (2) (by first | omega | (simp <;> omega))).trans (show _ = some (.int .i64 c) by first | (with_reducible assumption) | go_simp); have r3 := (hx3.cells (w.heap.size) (3) (by first | omega | (simp <;> omega))).trans (show _ = some (.string s) by first | (with_reducible assumption) | go_simp); have r4 := (hx3.cells (w.heap.size) (4) (by first | omega | (simp <;> omega))).trans (show _ = some (.slice a2 n2 c2) by first | (with_reducible assumption) | go_simp); have r5 := (hx3.cells (w.heap.size) (5) (by first | omega | (simp <;> omega))).trans (show _ = some (.int .i64 e) by first | (with_reducible assumption) | go_simp); have r6 := (hx3.cells (w.heap.size) (6) (by first | omega | (simp <;> omega))).trans (show _ = some (.int .i64 mn) by first | (with_reducible assumption) | go_simp))
                  | (go_at_call 63; (with_reducible refine (HX.out _ extA).mono ?_); rintro e' w5 ⟨cs5, rfl, hm5, hx5⟩; obtain ⟨v5, rfl, hv5, _⟩ := hm5; obtain ⟨a5, n5, c5, rfl⟩ := hv5.slice; clear hv5))
                go_ret
                exact ⟨rfl, extA⟩
            · rw [checkD_take_next k1 rfl H0.out g (bytes_nil h1) h2]
              have t3 : inB mn 1 60 = true := by unfold inB; simp; omega
              have t2 : decide (mn < 1) = false := decide_eq_false (by omega)
              have t4 : decide (60 < mn) = false := decide_eq_false (by omega)
              have b1 : 1 ≤ mn := by omega
              have b2 : mn ≤ 60 := by omega
              clear k1 h1 h2
              simp only
              generalize nextM (m, e) (mn - 1) = nx at *
              obtain ⟨⟨np, nc⟩, er⟩ := nx
              simp only at HX ⊢
              go_enter Try.func43, Try.ntmps43
              go_wp2_with (first
                | (go_at_call 60; (with_reducible refine (HR.out _ extA).mono ?_); rintro e' w1 ⟨rfl, hx1⟩; have hz1 := hx1.size; (try simp at hz1); have hb1_0 : w.heap.size < w1.heap.size := (by omega); have p0 := (hx1.cells (w.heap.size) (0) (by first | omega | (simp <;> omega))).trans (show _ = some (.int .i64 2) by first | (with_reducible assumption) | go_simp); have p1 := (hx1.cells (w.heap.size) (1) (by first | omega | (simp <;> omega))).trans (show _ = some (.slice a1 n1 c1) by first | (with_reducible assumption) | go_simp); have p2 := (hx1.cells (w.heap.size) (2) (by first | omega | (simp <;> omega))).trans (show _ = some (.int .i64 c) by first | (with_reducible assumption) | go_simp); have p3 := (hx1.cells (w.heap.size) (3) (by first | omega | (simp <;> omega))).trans (show _ = some (.string s) by first | (with_reducible assumption) | go_simp); have p4 := (hx1.cells (w.heap.size) (4) (by first | omega | (simp <;> omega))).trans (show _ = some (.slice a2 n2 c2) by first | (with_reducible assumption) | go_simp); have p5 := (hx1.cells (w.heap.size) (5) (by first | omega | (simp <;> omega))).trans (show _ = some (.int .i64 e) by first | (with_reducible assumption) | go_simp); have p6 := (hx1.cells (w.heap.size) (6) (by first | omega | (simp <;> omega))).trans (show _ = some (.int .i64 mn) by first | (with_reducible assumption) | go_simp))
                | (go_at_call 62; (with_reducible refine (HK.out _ extA).mono ?_); rintro e' w2 ⟨rfl, hx2⟩; have hz2 := hx2.size; (try simp at hz2); have hb2_0 : w.heap.size < w2.heap.size := (by omega); have q0 := (hx2.cells (w.heap.size) (0) (by first | omega | (simp <;> omega))).trans (show _ = some (.int .i64 2) by first | (with_reducible assumption) | go_simp); have q1 := (hx2.cells (w.heap.size) (1) (by first | omega | (simp <;> omega))).trans (show _ = some (.slice a1 n1 c1) by first | (with_reducible assumption) | go_simp); have q2 := (hx2.cells (w.heap.size) (2) (by first | omega | (simp <;> omega))).trans (show _ = some (.int .i64 c) by first | (with_reducible assumption) | go_simp); have q3 := (hx2.cells (w.heap.size) (3) (by first | omega | (simp <;> omega))).trans (show _ = some (.string s) by first | (with_reducible assumption) | go_simp); have q4 := (hx2.cells (w.heap.size) (4) (by first | omega | (simp <;> omega))).trans (show _ = some (.slice a2 n2 c2) by first | (with_reducible assumption) | go_simp); have q5 := (hx2.cells (w.heap.size) (5) (by first | omega | (simp <;> omega))).trans (show _ = some (.int .i64 e) by first | (with_reducible assumption) | go_simp); have q6 := (hx2.cells (w.heap.size) (6) (by first | omega | (simp <;> omega))).trans (show _ = some (.int .i64 mn) by first | (with_reducible assumption) | go_simp))
                | (go_at_call 61; (with_reducible refine (HN2.out _ extA).mono ?_); rintro e' w4 ⟨rfl, hx4⟩; have hz4 := hx4.size; (try simp at hz4); have hb4_0 : w.heap.size < w4.heap.size := (by omega); have s0 := (hx4.cells (w.heap.size) (0) (by first | omega | (simp <;> omega))).trans (show _ = some (.int .i64 2) by first | (with_reducible assumption) | go_simp); have s1 := (hx4.cells (w.heap.size) (1) (by first | omega | (simp <;> omega))).trans (show _ = some (.slice a1 n1 c1) by first | (with_reducible assumption) | go_simp); have s2 := (hx4.cells (w.heap.size) (2) (by first | omega | (simp <;> omega))).trans (show _ = some (.int .i64 c) by first | (with_reducible assumption) | go_simp); have s3 := (hx4.cells (w.heap.size) (3) (by first | omega | (simp <;> omega))).trans (show _ = some (.string s) by first | (with_reducible assumption) | go_simp); have s4 := (hx4.cells (w.heap.size) (4) (by first | omega | (simp <;> omega))).trans (show _ = some (.slice a2 n2 c2) by first | (with_reducible assumption) | go_simp); have s5 := (hx4.cells (w.heap.size) (5) (by first | omega | (simp <;> omega))).trans (show _ = some (.int .i64 e) by first | (with_reducible assumption) | go_simp); have s6 := (hx4.cells (w.heap.size) (6) (by first | omega | (simp <;> omega))).trans (show _ = some (.int .i64 mn) by first | (with_reducible assumption) | go_simp))
                | (go_at_call 61; (with_reducible refine (HN1.out _ extA).mono ?_); rintro e' w3 ⟨rfl, hx3⟩; have hz3 := hx3.size; (try simp at hz3); have hb3_0 : w.heap.size < w3.heap.size := (by omega); have r0 := (hx3.cells (w.heap.size) (0) (by first | omega | (simp <;> omega))).trans (show _ = some (.int .i64 2) by first | (with_reducible assumption) | go_simp); have r1 := (hx3.cells (w.heap.size) (1) (by first | omega | (simp <;> omega))).trans (show _ = some (.slice a1 n1 c1) by first | (with_reducible assumption) | go_simp); have r2 := (hx3.cells (w.heap.size) (2) (by first | omega | (simp <;> omega))).trans (show _ = some (.int .i64 c) by first | (with_reducible assumption) | go_simp); have r3 := (hx3.cells (w.heap.size) (3) (by first | omega | (simp <;> omega))).trans (show _ = some (.string s) by first | (with_reducible assumption) | go_simp); have r4 := (hx3.cells (w.heap.size) (4) (by first | omega | (simp <;> omega))).trans (show _ = some (.slice a2 n2 c2) by first | (with_reducible assumption) | go_simp); have r5 := (hx3.cells (w.heap.size) (5) (by first | omega | (simp <;> omega))).trans (show _ = some (.int .i64 e) by first | (with_reducible assumption) | go_simp); have r6 := (hx3.cells (w.heap.size) (6) (by first | omega | (simp <;> omega))).trans (show _ = some (.int .i64 mn) by first | (with_reducible assumption) | go_simp))
                | (go_at_call 63; (with_reducible refine (HX.out _ extA).mono ?_); rintro e' w5 ⟨cs5, rfl, hm5, hx5⟩; obtain ⟨v5, rfl, hv5, _⟩ := hm5; obtain ⟨a5, n5, c5, rfl⟩ := hv5.slice; clear hv5))
              go_ret
              exact ⟨rfl, extA⟩
          · rw [checkD_take_form k1 rfl H0.out (.inr (bytes_cons h1))]
            have t1 : s.toList.isEmpty = false := empty_no h1
            clear k1 h1
            go_enter Try.func43, Try.ntmps43
            go_wp2_with (first
              | (go_at_call 60; (with_reducible refine (HR.out _ extA).mono ?_); rintro e' w1 ⟨rfl, hx1⟩; have hz1 := hx1.size; (try simp at hz1); have hb1_0 : w.heap.size < w1.heap.size := (by omega); have p0 := (hx1.cells (w.heap.size) (0) (by first | omega | (simp <;> omega))).trans (show _ = some (.int .i64 2) by first | (with_reducible assumption) | go_simp); have p1 := (hx1.cells (w.heap.size) (1) (by first | omega | (simp <;> omega))).trans (show _ = some (.slice a1 n1 c1) by first | (with_reducible assumption) | go_simp); have p2 := (hx1.cells (w.heap.size) (2) (by first | omega | (simp <;> omega))).trans (show _ = some (.int .i64 c) by first | (with_reducible assumption) | go_simp); have p3 := (hx1.cells (w.heap.size) (3) (by first | omega | (simp <;> omega))).trans (show _ = some (.string s) by first | (with_reducible assumption) | go_simp); have p4 := (hx1.cells (w.heap.size) (4) (by first | omega | (simp <;> omega))).trans (show _ = some (.slice a2 n2 c2) by first | (with_reducible assumption) | go_simp); have p5 := (hx1.cells (w.heap.size) (5) (by first | omega | (simp <;> omega))).trans (show _ = some (.int .i64 e) by first | (with_reducible assumption) | go_simp); have p6 := (hx1.cells (w.heap.size) (6) (by first | omega | (simp <;> omega))).trans (show _ = some (.int .i64 mn) by first | (with_reducible assumption) | go_simp))
              | (go_at_call 62; (with_reducible refine (HK.out _ extA).mono ?_); rintro e' w2 ⟨rfl, hx2⟩; have hz2 := hx2.size; (try simp at hz2); have hb2_0 : w.heap.size < w2.heap.size := (by omega); have q0 := (hx2.cells (w.heap.size) (0) (by first | omega | (simp <;> omega))).trans (show _ = some (.int .i64 2) by first | (with_reducible assumption) | go_simp); have q1 := (hx2.cells (w.heap.size) (1) (by first | omega | (simp <;> omega))).trans (show _ = some (.slice a1 n1 c1) by first | (with_reducible assumption) | go_simp); have q2 := (hx2.cells (w.heap.size) (2) (by first | omega | (simp <;> omega))).trans (show _ = some (.int .i64 c) by first | (with_reducible assumption) | go_simp); have q3 := (hx2.cells (w.heap.size) (3) (by first | omega | (simp <;> omega))).trans (show _ = some (.string s) by first | (with_reducible assumption) | go_simp); have q4 := (hx2.cells (w.heap.size) (4) (by first | omega | (simp <;> omega))).trans (show _ = some (.slice a2 n2 c2) by first | (with_reducible assumption) | go_simp); have q5 := (hx2.cells (w.heap.size) (5) (by first | omega | (simp <;> omega))).trans (show _ = some (.int .i64 e) by first | (with_reducible assumption) | go_simp); have q6 := (hx2.cells (w.heap.size) (6) (by first | omega | (simp <;> omega))).trans (show _ = some (.int .i64 mn) by first | (with_reducible assumption) | go_simp))
              | (go_at_call 61; (with_reducible refine (HN2.out _ extA).mono ?_); rintro e' w4 ⟨rfl, hx4⟩; have hz4 := hx4.size; (try simp at hz4); have hb4_0 : w.heap.size < w4.heap.size := (by omega); have s0 := (hx4.cells (w.heap.size) (0) (by first | omega | (simp <;> omega))).trans (show _ = some (.int .i64 2) by first | (with_reducible assumption) | go_simp); have s1 := (hx4.cells (w.heap.size) (1) (by first | omega | (simp <;> omega))).trans (show _ = some (.slice a1 n1 c1) by first | (with_reducible assumption) | go_simp); have s2 := (hx4.cells (w.heap.size) (2) (by first | omega | (simp <;> omega))).trans (show _ = some (.int .i64 c) by first | (with_reducible assumption) | go_simp); have s3 := (hx4.cells (w.heap.size) (3) (by first | omega | (simp <;> omega))).trans (show _ = some (.string s) by first | (with_reducible assumption) | go_simp); have s4 := (hx4.cells (w.heap.size) (4) (by first | omega | (simp <;> omega))).trans (show _ = some (.slice a2 n2 c2) by first | (with_reducible assumption) | go_simp); have s5 := (hx4.cells (w.heap.size) (5) (by first | omega | (simp <;> omega))).trans (show _ = some (.int .i64 e) by first | (with_reducible assumption) | go_simp); have s6 := (hx4.cells (w.heap.size) (6) (by first | omega | (simp <;> omega))).trans (show _ = some (.int .i64 mn) by first | (with_reducible assumption) | go_simp))
              | (go_at_call 61; (with_reducible refine (HN1.out _ extA).mono ?_); rintro e' w3 ⟨rfl, hx3⟩; have hz3 := hx3.size; (try simp at hz3); have hb3_0 : w.heap.size < w3.heap.size := (by omega); have r0 := (hx3.cells (w.heap.size) (0) (by first | omega | (simp <;> omega))).trans (show _ = some (.int .i64 2) by first | (with_reducible assumption) | go_simp); have r1 := (hx3.cells (w.heap.size) (1) (by first | omega | (simp <;> omega))).trans (show _ = some (.slice a1 n1 c1) by first | (with_reducible assumption) | go_simp); have r2 := (hx3.cells (w.heap.size) (2) (by first | omega | (simp <;> omega))).trans (show _ = some (.int .i64 c) by first | (with_reducible assumption) | go_simp); have r3 := (hx3.cells (w.heap.size) (3) (by first | omega | (simp <;> omega))).trans (show _ = some (.string s) by first | (with_reducible assumption) | go_simp); have r4 := (hx3.cells (w.heap.size) (4) (by first | omega | (simp <;> omega))).trans (show _ = some (.slice a2 n2 c2) by first | (with_reducible assumption) | go_simp); have r5 := (hx3.cells (w.heap.size) (5) (by first | omega | (simp <;> omega))).trans (show _ = some (.int .i64 e) by first | (with_reducible assumption) | go_simp); have r6 := (hx3.cells (w.heap.size) (6) (by first | omega | (simp <;> omega))).trans (show _ = some (.int .i64 mn) by first | (with_reducible assumption) | go_simp))
              | (go_at_call 63; (with_reducible refine (HX.out _ extA).mono ?_); rintro e' w5 ⟨cs5, rfl, hm5, hx5⟩; obtain ⟨v5, rfl, hv5, _⟩ := hm5; obtain ⟨a5, n5, c5, rfl⟩ := hv5.slice; clear hv5))
            go_ret
            exact ⟨rfl, extA⟩
      · rw [checkD_take_bad k1 rfl h0]
        simp only
        have t1 : (checkM (m, e) != 0) = true := by simpa using h0
        generalize checkM (m, e) = r at *
        clear h0 k1
        go_enter Try.func43, Try.ntmps43
        go_wp2_with (first
          | (go_at_call 60; (with_reducible refine (HR.out _ extA).mono ?_); rintro e' w1 ⟨rfl, hx1⟩; have hz1 := hx1.size; (try simp at hz1); have hb1_0 : w.heap.size < w1.heap.size := (by omega); have p0 := (hx1.cells (w.heap.size) (0) (by first | omega | (simp <;> omega))).trans (show _ = some (.int .i64 2) by first | (with_reducible assumption) | go_simp); have p1 := (hx1.cells (w.heap.size) (1) (by first | omega | (simp <;> omega))).trans (show _ = some (.slice a1 n1 c1) by first | (with_reducible assumption) | go_simp); have p2 := (hx1.cells (w.heap.size) (2) (by first | omega | (simp <;> omega))).trans (show _ = some (.int .i64 c) by first | (with_reducible assumption) | go_simp); have p3 := (hx1.cells (w.heap.size) (3) (by first | omega | (simp <;> omega))).trans (show _ = some (.string s) by first | (with_reducible assumption) | go_simp); have p4 := (hx1.cells (w.heap.size) (4) (by first | omega | (simp <;> omega))).trans (show _ = some (.slice a2 n2 c2) by first | (with_reducible assumption) | go_simp); have p5 := (hx1.cells (w.heap.size) (5) (by first | omega | (simp <;> omega))).trans (show _ = some (.int .i64 e) by first | (with_reducible assumption) | go_simp); have p6 := (hx1.cells (w.heap.size) (6) (by first | omega | (simp <;> omega))).trans (show _ = some (.int .i64 mn) by first | (with_reducible assumption) | go_simp))
          | (go_at_call 62; (with_reducible refine (HK.out _ extA).mono ?_); rintro e' w2 ⟨rfl, hx2⟩; have hz2 := hx2.size; (try simp at hz2); have hb2_0 : w.heap.size < w2.heap.size := (by omega); have q0 := (hx2.cells (w.heap.size) (0) (by first | omega | (simp <;> omega))).trans (show _ = some (.int .i64 2) by first | (with_reducible assumption) | go_simp); have q1 := (hx2.cells (w.heap.size) (1) (by first | omega | (simp <;> omega))).trans (show _ = some (.slice a1 n1 c1) by first | (with_reducible assumption) | go_simp); have q2 := (hx2.cells (w.heap.size) (2) (by first | omega | (simp <;> omega))).trans (show _ = some (.int .i64 c) by first | (with_reducible assumption) | go_simp); have q3 := (hx2.cells (w.heap.size) (3) (by first | omega | (simp <;> omega))).trans (show _ = some (.string s) by first | (with_reducible assumption) | go_simp); have q4 := (hx2.cells (w.heap.size) (4) (by first | omega | (simp <;> omega))).trans (show _ = some (.slice a2 n2 c2) by first | (with_reducible assumption) | go_simp); have q5 := (hx2.cells (w.heap.size) (5) (by first | omega | (simp <;> omega))).trans (show _ = some (.int .i64 e) by first | (with_reducible assumption) | go_simp); have q6 := (hx2.cells (w.heap.size) (6) (by first | omega | (simp <;> omega))).trans (show _ = some (.int .i64 mn) by first | (with_reducible assumption) | go_simp))
          | (go_at_call 61; (with_reducible refine (HN2.out _ extA).mono ?_); rintro e' w4 ⟨rfl, hx4⟩; have hz4 := hx4.size; (try simp at hz4); have hb4_0 : w.heap.size < w4.heap.size := (by omega); have s0 := (hx4.cells (w.heap.size) (0) (by first | omega | (simp <;> omega))).trans (show _ = some (.int .i64 2) by first | (with_reducible assumption) | go_simp); have s1 := (hx4.cells (w.heap.size) (1) (by first | omega | (simp <;> omega))).trans (show _ = some (.slice a1 n1 c1) by first | (with_reducible assumption) | go_simp); have s2 := (hx4.cells (w.heap.size) (2) (by first | omega | (simp <;> omega))).trans (show _ = some (.int .i64 c) by first | (with_reducible assumption) | go_simp); have s3 := (hx4.cells (w.heap.size) (3) (by first | omega | (simp <;> omega))).trans (show _ = some (.string s) by first | (with_reducible assumption) | go_simp); have s4 := (hx4.cells (w.heap.size) (4) (by first | omega | (simp <;> omega))).trans (show _ = some (.slice a2 n2 c2) by first | (with_reducible assumption) | go_simp); have s5 := (hx4.cells (w.heap.size) (5) (by first | omega | (simp <;> omega))).trans (show _ = some (.int .i64 e) by first | (with_reducible assumption) | go_simp); have s6 := (hx4.cells (w.heap.size) (6) (by first | omega | (simp <;> omega))).trans (show _ = some (.int .i64 mn) by first | (with_reducible assumption) | go_simp))
          | (go_at_call 61; (with_reducible refine (HN1.out _ extA).mono ?_); rintro e' w3 ⟨rfl, hx3⟩; have hz3 := hx3.size; (try simp at hz3); have hb3_0 : w.heap.size < w3.heap.size := (by omega); have r0 := (hx3.cells (w.heap.size) (0) (by first | omega | (simp <;> omega))).trans (show _ = some (.int .i64 2) by first | (with_reducible assumption) | go_simp); have r1 := (hx3.cells (w.heap.size) (1) (by first | omega | (simp <;> omega))).trans (show _ = some (.slice a1 n1 c1) by first | (with_reducible assumption) | go_simp); have r2 := (hx3.cells (w.heap.size) (2) (by first | omega | (simp <;> omega))).trans (show _ = some (.int .i64 c) by first | (with_reducible assumption) | go_simp); have r3 := (hx3.cells (w.heap.size) (3) (by first | omega | (simp <;> omega))).trans (show _ = some (.string s) by first | (with_reducible assumption) | go_simp); have r4 := (hx3.cells (w.heap.size) (4) (by first | omega | (simp <;> omega))).trans (show _ = some (.slice a2 n2 c2) by first | (with_reducible assumption) | go_simp); have r5 := (hx3.cells (w.heap.size) (5) (by first | omega | (simp <;> omega))).trans (show _ = some (.int .i64 e) by first | (with_reducible assumption) | go_simp); have r6 := (hx3.cells (w.heap.size) (6) (by first | omega | (simp <;> omega))).trans (show _ = some (.int .i64 mn) by first | (with_reducible assumption) | go_simp))
          | (go_at_call 63; (with_reducible refine (HX.out _ extA).mono ?_); rintro e' w5 ⟨cs5, rfl, hm5, hx5⟩; obtain ⟨v5, rfl, hv5, _⟩ := hm5; obtain ⟨a5, n5, c5, rfl⟩ := hv5.slice; clear hv5))
        go_ret
        exact ⟨rfl, extA⟩
    · rw [checkD_kind k1 k2]
      have t1 : (kd == 2) = false := by simpa using k2
      have t2 : (kd != 2) = true := by simpa using k2
      clear k1 k2
      go_enter Try.func43, Try.ntmps43
      go_wp2_with (first
        | (go_at_call 60; (with_reducible refine (HR.out _ extA).mono ?_); rintro e' w1 ⟨rfl, hx1⟩; have hz1 := hx1.size; (try simp at hz1); have hb1_0 : w.heap.size < w1.heap.size := (by omega); have p0 := (hx1.cells (w.heap.size) (0) (by first | omega | (simp <;> omega))).trans (show _ = some (.int .i64 kd) by first | (with_reducible assumption) | go_simp); have p1 := (hx1.cells (w.heap.size) (1) (by first | omega | (simp <;> omega))).trans (show _ = some (.slice a1 n1 c1) by first | (with_reducible assumption) | go_simp); have p2 := (hx1.cells (w.heap.size) (2) (by first | omega | (simp <;> omega))).trans (show _ = some (.int .i64 c) by first | (with_reducible assumption) | go_simp); have p3 := (hx1.cells (w.heap.size) (3) (by first | omega | (simp <;> omega))).trans (show _ = some (.string s) by first | (with_reducible assumption) | go_simp); have p4 := (hx1.cells (w.heap.size) (4) (by first | omega | (simp <;> omega))).trans (show _ = some (.slice a2 n2 c2) by first | (with_reducible assumption) | go_simp); have p5 := (hx1.cells (w.heap.size) (5) (by first | omega | (simp <;> omega))).trans (show _ = some (.int .i64 e) by first | (with_reducible assumption) | go_simp); have p6 := (hx1.cells (w.heap.size) (6) (by first | omega | (simp <;> omega))).trans (show _ = some (.int .i64 mn) by first | (with_reducible assumption) | go_simp))
        | (go_at_call 62; (with_reducible refine (HK.out _ extA).mono ?_); rintro e' w2 ⟨rfl, hx2⟩; have hz2 := hx2.size; (try simp at hz2); have hb2_0 : w.heap.size < w2.heap.size := (by omega); have q0 := (hx2.cells (w.heap.size) (0) (by first | omega | (simp <;> omega))).trans (show _ = some (.int .i64 kd) by first | (with_reducible assumption) | go_simp); have q1 := (hx2.cells (w.heap.size) (1) (by first | omega | (simp <;> omega))).trans (show _ = some (.slice a1 n1 c1) by first | (with_reducible assumption) | go_simp); have q2 := (hx2.cells (w.heap.size) (2) (by first | omega | (simp <;> omega))).trans (show _ = some (.int .i64 c) by first | (with_reducible assumption) | go_simp); have q3 := (hx2.cells (w.heap.size) (3) (by first | omega | (simp <;> omega))).trans (show _ = some (.string s) by first | (with_reducible assumption) | go_simp); have q4 := (hx2.cells (w.heap.size) (4) (by first | omega | (simp <;> omega))).trans (show _ = some (.slice a2 n2 c2) by first | (with_reducible assumption) | go_simp); have q5 := (hx2.cells (w.heap.size) (5) (by first | omega | (simp <;> omega))).trans (show _ = some (.int .i64 e) by first | (with_reducible assumption) | go_simp); have q6 := (hx2.cells (w.heap.size) (6) (by first | omega | (simp <;> omega))).trans (show _ = some (.int .i64 mn) by first | (with_reducible assumption) | go_simp))
        | (go_at_call 61; (with_reducible refine (HN2.out _ extA).mono ?_); rintro e' w4 ⟨rfl, hx4⟩; have hz4 := hx4.size; (try simp at hz4); have hb4_0 : w.heap.size < w4.heap.size := (by omega); have s0 := (hx4.cells (w.heap.size) (0) (by first | omega | (simp <;> omega))).trans (show _ = some (.int .i64 kd) by first | (with_reducible assumption) | go_simp); have s1 := (hx4.cells (w.heap.size) (1) (by first | omega | (simp <;> omega))).trans (show _ = some (.slice a1 n1 c1) by first | (with_reducible assumption) | go_simp); have s2 := (hx4.cells (w.heap.size) (2) (by first | omega | (simp <;> omega))).trans (show _ = some (.int .i64 c) by first | (with_reducible assumption) | go_simp); have s3 := (hx4.cells (w.heap.size) (3) (by first | omega | (simp <;> omega))).trans (show _ = some (.string s) by first | (with_reducible assumption) | go_simp); have s4 := (hx4.cells (w.heap.size) (4) (by first | omega | (simp <;> omega))).trans (show _ = some (.slice a2 n2 c2) by first | (with_reducible assumption) | go_simp); have s5 := (hx4.cells (w.heap.size) (5) (by first | omega | (simp <;> omega))).trans (show _ = some (.int .i64 e) by first | (with_reducible assumption) | go_simp); have s6 := (hx4.cells (w.heap.size) (6) (by first | omega | (simp <;> omega))).trans (show _ = some (.int .i64 mn) by first | (with_reducible assumption) | go_simp))
        | (go_at_call 61; (with_reducible refine (HN1.out _ extA).mono ?_); rintro e' w3 ⟨rfl, hx3⟩; have hz3 := hx3.size; (try simp at hz3); have hb3_0 : w.heap.size < w3.heap.size := (by omega); have r0 := (hx3.cells (w.heap.size) (0) (by first | omega | (simp <;> omega))).trans (show _ = some (.int .i64 kd) by first | (with_reducible assumption) | go_simp); have r1 := (hx3.cells (w.heap.size) (1) (by first | omega | (simp <;> omega))).trans (show _ = some (.slice a1 n1 c1) by first | (with_reducible assumption) | go_simp); have r2 := (hx3.cells (w.heap.size) (2) (by first | omega | (simp <;> omega))).trans (show _ = some (.int .i64 c) by first | (with_reducible assumption) | go_simp); have r3 := (hx3.cells (w.heap.size) (3) (by first | omega | (simp <;> omega))).trans (show _ = some (.string s) by first | (with_reducible assumption) | go_simp); have r4 := (hx3.cells (w.heap.size) (4) (by first | omega | (simp <;> omega))).trans (show _ = some (.slice a2 n2 c2) by first | (with_reducible assumption) | go_simp); have r5 := (hx3.cells (w.heap.size) (5) (by first | omega | (simp <;> omega))).trans (show _ = some (.int .i64 e) by first | (with_reducible assumption) | go_simp); have r6 := (hx3.cells (w.heap.size) (6) (by first | omega | (simp <;> omega))).trans (show _ = some (.int .i64 mn) by first | (with_reducible assumption) | go_simp))
        | (go_at_call 63; (with_reducible refine (HX.out _ extA).mono ?_); rintro e' w5 ⟨cs5, rfl, hm5, hx5⟩; obtain ⟨v5, rfl, hv5, _⟩ := hm5; obtain ⟨a5, n5, c5, rfl⟩ := hv5.slice; clear hv5))
      go_ret
      exact ⟨rfl, extA⟩
end Go.Proofs.Ytiladkinndgeaaa
/- What is wrong with a deed, by the document. -/
namespace Go.Proofs.Ytiladkinndgeaaa
open Go Go.RowKit Go.BigFrame Cp

end Go.Proofs.Ytiladkinndgeaaa
/- Lists of numbers: as they lie; is there a bad one? -/
namespace Go.Proofs.Ytiladkinndgeaaa
open Go Go.RowKit Go.BigFrame Cp

def badI (n : Int) : Bool := !inB n 0 500
theorem int_at {F : Nat → Prop} {w : World} {a : Option Addr} {n cap : Nat} {q : List Int} (h : RSl RInt 1 F w (.slice a n cap) q) {i : Nat} (hi : i < n) :
    ∃ b o x, a = some ⟨b, o, none⟩ ∧ b < w.heap.size ∧ q[i]? = some x ∧ I64 x ∧ w.cell? ⟨b, o + i, none⟩ = some (.int .i64 x) := by
  obtain ⟨b, o, x, cs, e1, e2, e3, _, e4, ⟨rfl, i1⟩⟩ := h.at_ hi
  exact ⟨b, o, x, e1, e2, e3, i1, by simpa using e4 0 _ rfl⟩
theorem withinW_any (n a b : Int) (w : World) : Calls Try.prog 40 #[.int .i64 n, .int .i64 a, .int .i64 b] w fun e w' => e = .returned (.bool (inB n a b)) ∧ w = w' := by
  go_enter Try.func40, Try.ntmps40
  go_wp2
  all_goals go_ret
  all_goals first | exact ⟨rb (inB_no ‹_›), rfl⟩ | exact ⟨rb (inB_yes ‹_›), rfl⟩
theorem badW_any (n : Int) (w : World) : Calls Try.prog 42 #[.int .i64 n] w fun e w' => e = .returned (.bool (badI n)) ∧ w = w' := by
  go_enter Try.func42, Try.ntmps42
  go_wp2_with (go_at_call 40; refine (withinW_any _ _ _ _).mono ?_; rintro e w' ⟨rfl, rfl⟩)
  go_ret
  exact ⟨rfl, rfl⟩
set_option maxRecDepth 100000 in
theorem idxIntW_any {F : Nat → Prop} {w : World} {v : Value} {l : List Int} (h : RSl RInt 1 F w v l) :
    Calls Try.prog 59 #[v, .func (.func 42) #[] #[]] w (IsIdx (l.any badI) w) := by
  obtain ⟨a1, n1, c1, rfl⟩ := h.slice
  obtain ⟨rfl, k1, k1'⟩ := h.len
  unfold maxLen at k1'
  have q1 : l.length ≤ 9223372036854775807 := by omega
  clear k1 k1'
  have HL := Lib.hid h
  clear h
  go_enter Try.func59, Try.ntmps59
  go_wp2
  go_loopw [8] (fun i wr => ∃ k : Nat, k ≤ l.length ∧ i = .int .i64 k ∧ Hid ((l.take k).any badI = false) ∧ Ext w wr) (fun i _ => l.length - (intOf i).toNat)
  case atStart => exact ⟨0, by omega, rfl, Lib.hid (by simp), ext_refl _⟩
  case round =>
    obtain ⟨k, hk1, rfl, ho, hx⟩ := hrel
    have HX := Lib.hid hx
    clear hx
    by_cases h1 : k < l.length
    · obtain ⟨b1, o1, x1, rfl, hb1, e1, _, ca⟩ := int_at (HL.out.ext gInt HX.out) h1
      have HA := Lib.hid (anyp_step (p := badI) e1)
      clear e1 hb1
      cases g1 : badI x1 with
      | true =>
        have HC := Lib.hid (anyp_of_take (k := k + 1) (by rw [HA.out, ho.out, g1]; rfl))
        go_wp2_with (go_at_call 42; refine (badW_any _ _).mono ?_; rintro e w1 ⟨rfl, rfl⟩)
        go_ret
        exact ⟨k, by rw [HC.out]; simp, rfl, HX.out⟩
      | false =>
        have HD := Lib.hid (show (l.take (k + 1)).any badI = false by rw [HA.out, ho.out, g1]; rfl)
        go_wp2_with (go_at_call 42; refine (badW_any _ _).mono ?_; rintro e w1 ⟨rfl, rfl⟩)
        go_roundw
        case rel => exact ⟨k + 1, by omega, by go_num, HD, HX.out⟩
        case measure => simp [intOf]; omega
    · have hk : k = l.length := by omega
      subst hk
      have ho' := ho.out
      rw [List.take_of_length_le (Nat.le_refl _)] at ho'
      have HO := Lib.hid ho'
      clear ho ho'
      go_wp2
      go_ret
      exact ⟨-1, by rw [HO.out]; rfl, rfl, HX.out⟩
theorem containsIntW_any {F : Nat → Prop} {w : World} {v : Value} {l : List Int} (h : RSl RInt 1 F w v l) :
    Calls Try.prog 41 #[v, .func (.func 42) #[] #[]] w fun e w' => e = .returned (.bool (l.any badI)) ∧ Ext w w' := by
  have H := Lib.hid (idxIntW_any h)
  obtain ⟨a1, n1, c1, rfl⟩ := h.slice
  clear h
  go_enter Try.func41, Try.ntmps41
  go_wp2_with (go_at_call 59; refine H.out.mono ?_; rintro e w1 ⟨n, hn, rfl, hx1⟩; have HN := Lib.hid hn; clear hn)
  go_ret
  exact ⟨rb HN.out, hx1⟩

end Go.Proofs.Ytiladkinndgeaaa
/- What is wrong with a list of deeds; a deed where it lies. -/
namespace Go.Proofs.Ytiladkinndgeaaa
open Go Go.RowKit Go.BigFrame Cp

def checkDL : List De → Int
  | [] => 0
  | d :: r => if checkD d ≠ 0 then checkD d else checkDL r
theorem checkDL_bad {l : List De} {k : Nat} {d : De} (h : l[k]? = some d) (h1 : ¬ checkD d = 0) : checkDL (l.drop k) = checkD d := by rw [drop_at h]; unfold checkDL; rw [if_pos h1]
theorem checkDL_next {l : List De} {k : Nat} {d : De} (h : l[k]? = some d) (h1 : checkD d = 0) : checkDL (l.drop k) = checkDL (l.drop (k + 1)) := by
  rw [drop_at h]
  conv => lhs; unfold checkDL
  rw [if_neg (by simpa using h1)]
theorem checkDL_end {l : List De} {k : Nat} (h : l.length ≤ k) : checkDL (l.drop k) = 0 := by rw [List.drop_eq_nil_of_le h]; rfl
theorem deed_at {F : Nat → Prop} {w : World} {a : Option Addr} {n cap : Nat} {q : List De} (h : RSl RDe 7 F w (.slice a n cap) q) {i : Nat} (hi : i < n) :
    ∃ b o d a1 n1 c1 a2 n2 c2 s, a = some ⟨b, o, none⟩ ∧ b < w.heap.size ∧ q[i]? = some d ∧
      RDe F w [.int .i64 d.kind, .slice a1 n1 c1, .int .i64 d.run.1.2, .string s, .slice a2 n2 c2, .int .i64 d.mark.2, .int .i64 d.many] d ∧
      w.cell? ⟨b, o + i * 7, none⟩ = some (.int .i64 d.kind) ∧ w.cell? ⟨b, o + i * 7 + 1, none⟩ = some (.slice a1 n1 c1) ∧ w.cell? ⟨b, o + i * 7 + 2, none⟩ = some (.int .i64 d.run.1.2) ∧
      w.cell? ⟨b, o + i * 7 + 3, none⟩ = some (.string s) ∧ w.cell? ⟨b, o + i * 7 + 4, none⟩ = some (.slice a2 n2 c2) ∧ w.cell? ⟨b, o + i * 7 + 5, none⟩ = some (.int .i64 d.mark.2) ∧ w.cell? ⟨b, o + i * 7 + 6, none⟩ = some (.int .i64 d.many) := by
  obtain ⟨b, o, d, cs, e1, e2, e3, _, e4, hd⟩ := h.at_ hi
  have hd' := hd
  obtain ⟨v, x, u, rfl, h1, h2, h3, h4, h5, h6, h7⟩ := hd
  obtain ⟨a1, n1, c1, rfl⟩ := h2.slice
  obtain ⟨a2, n2, c2, rfl⟩ := h5.slice
  obtain ⟨s, rfl, _⟩ := tx_bytes h4
  exact ⟨b, o, d, a1, n1, c1, a2, n2, c2, s, e1, e2, e3, hd', by simpa using e4 0 _ rfl, by simpa [Nat.add_assoc] using e4 1 _ rfl, by simpa [Nat.add_assoc] using e4 2 _ rfl, by simpa [Nat.add_assoc] using e4 3 _ rfl, by simpa [Nat.add_assoc] using e4 4 _ rfl, by simpa [Nat.add_assoc] using e4 5 _ rfl, by simpa [Nat.add_assoc] using e4 6 _ rfl⟩
end Go.Proofs.Ytiladkinndgeaaa
/- What is wrong with a note: step by step. -/
namespace Go.Proofs.Ytiladkinndgeaaa
open Go Go.RowKit Go.BigFrame Cp

def checkN (n : No) : Int :=
  if inB n.site 0 4 = false ∨ inB n.number 1 500 = false then 3
  else if n.needs.length ≠ 5 then 1
  else if n.needs.any badI = true then 3
  else if n.needs[n.site.toNat]?.getD 0 ≠ n.number - 1 then 4
  else if n.deeds.length = 0 then 1
  else if 20 < n.deeds.length then 2
  else checkDL n.deeds
section
variable {n : No}
theorem checkN_site (h : inB n.site 0 4 = false) : checkN n = 3 := by unfold checkN; rw [if_pos (.inl h)]
theorem checkN_number (h : inB n.number 1 500 = false) : checkN n = 3 := by unfold checkN; rw [if_pos (.inr h)]
theorem checkN_len (h : inB n.site 0 4 = true) (h2 : inB n.number 1 500 = true) (h3 : n.needs.length ≠ 5) : checkN n = 1 := by unfold checkN; rw [if_neg (by rw [h, h2]; simp), if_pos h3]
theorem checkN_needs (h : inB n.site 0 4 = true) (h2 : inB n.number 1 500 = true) (h3 : n.needs.length = 5) (h4 : n.needs.any badI = true) : checkN n = 3 := by
  unfold checkN; rw [if_neg (by rw [h, h2]; simp), if_neg (by simpa using h3), if_pos h4]
theorem checkN_rest (h : inB n.site 0 4 = true) (h2 : inB n.number 1 500 = true) (h3 : n.needs.length = 5) (h4 : n.needs.any badI = false) : checkN n =
    if n.needs[n.site.toNat]?.getD 0 ≠ n.number - 1 then 4 else if n.deeds.length = 0 then 1 else if 20 < n.deeds.length then 2 else checkDL n.deeds := by
  unfold checkN; rw [if_neg (by rw [h, h2]; simp), if_neg (by simpa using h3), if_neg (by rw [h4]; simp)]
end
theorem site_nat {s : Int} (h : inB s 0 4 = true) : ∃ j : Nat, s = (j : Int) ∧ j < 5 := by
  unfold inB at h
  simp at h
  exact ⟨s.toNat, by omega, by omega⟩
theorem num_rng {s : Int} (h : inB s 1 500 = true) : 1 ≤ s ∧ s ≤ 500 := by
  unfold inB at h
  simpa using h
theorem rno_of {F : Nat → Prop} {w : World} {v u : Value} {s k : Int} {l : List Int} {q : List De} (hs : I64 s) (hk : I64 k) (hl : RSl RInt 1 F w v l) (hq : RSl RDe 7 F w u q) : RNo F w [.int .i64 s, .int .i64 k, v, u] ⟨s, k, l, q⟩ := ⟨v, u, rfl, hs, hk, hl, hq⟩
end Go.Proofs.Ytiladkinndgeaaa
/- The same runs; does an atom go on a run. -/
namespace Go.Proofs.Ytiladkinndgeaaa
open Go Go.RowKit Go.BigFrame Cp

theorem rtx_s {s : ByteArray} (h : s.size ≤ 140737488351232) : RTx (.string s) s.data.toList := ⟨by congr, by simpa using h⟩
theorem bytes_eq {s t : ByteArray} (h : s.data.toList = t.data.toList) : s = t := by
  cases s; cases t
  congr
  exact Array.ext' h
set_option maxRecDepth 100000 in
set_option maxHeartbeats 4000000 in
theorem sameRun_any {F G : Nat → Prop} {w : World} {cs ds : List Value} {r : Rn} (h : RRn F w cs r) (k : RRn G w ds r) :
    Calls Try.prog 76 #[.agg cs.toArray, .agg ds.toArray] w fun e w' => e = .returned (.bool true) ∧ Ext w w' := by
  obtain ⟨v, x, rfl, hl, hi, hx⟩ := h
  obtain ⟨u, y, rfl, hm, hj, hy⟩ := k
  obtain ⟨⟨l, c⟩, t⟩ := r
  simp only at hl hi hx hm hj hy ⊢
  obtain ⟨s, rfl, rfl, hs⟩ := tx_bytes hx
  obtain ⟨s2, rfl, e2, hs2⟩ := tx_bytes hy
  obtain rfl := bytes_eq e2
  have HS := Lib.hid (fun (W : World) (hx : Ext w W) => same_same (rmk_of' (hl.ext gStp hx) hi) (rmk_of' (hm.ext gStp hx) hj))
  obtain ⟨a1, n1, c1, rfl⟩ := hl.slice
  obtain ⟨a2, n2, c2, rfl⟩ := hm.slice
  clear hl hi hx hm hj hy e2
  go_enter Try.func76, Try.ntmps76
  go_wp2_with (go_at_call 75; go_must ((with_reducible refine (HS.out _ extA).mono ?_); rintro e w1 ⟨rfl, hx1⟩))
  go_ret
  exact ⟨rfl, extA⟩
end Go.Proofs.Ytiladkinndgeaaa
/- The atoms of a run, by the document. -/
namespace Go.Proofs.Ytiladkinndgeaaa
open Go Go.RowKit Go.BigFrame Cp

theorem checkR_parts {r : Rn} (h : checkR r = 0) : checkM r.1 = 0 ∧ r.2 ≠ [] ∧ r.2.length ≤ 60 ∧ signsB r.2 = true ∧ (nextM r.1 (r.2.length - 1)).2 = 0 := by
  unfold checkR at h
  by_cases h1 : checkM r.1 ≠ 0
  · rw [if_pos h1] at h; exact absurd h h1
  rw [if_neg h1] at h
  by_cases h2 : r.2 = []
  · rw [if_pos h2] at h; omega
  rw [if_neg h2] at h
  by_cases h3 : 60 < r.2.length
  · rw [if_pos h3] at h; omega
  rw [if_neg h3] at h
  by_cases h4 : signsB r.2 = false
  · rw [if_pos h4] at h; omega
  rw [if_neg h4] at h
  exact ⟨by omega, h2, by omega, by simpa using h4, h⟩
end Go.Proofs.Ytiladkinndgeaaa
/- Plain facts on deeds that are done, one by one: what is right stays right; what an errno tells. -/
namespace Go.Proofs.Ytiladkinndgeaaa
open Go Go.RowKit Cp

theorem checkDL_ok : ∀ {l : List De}, checkDL l = 0 ↔ ∀ d ∈ l, checkD d = 0
  | [] => by simp [checkDL]
  | d :: l => by
    unfold checkDL
    by_cases h : checkD d = 0
    · rw [if_neg (by simpa using h), checkDL_ok]; simp [h]
    · rw [if_pos h]; simp [h]
theorem deed_take {d : De} (h : checkD d = 0) (h1 : ¬ d.kind = 1) : d.kind = 2 ∧ checkM d.mark = 0 ∧ (∃ n : Nat, d.many = (n : Int) ∧ 1 ≤ n ∧ n ≤ 60) ∧ noneM d.run.1 = true ∧ d.run.2 = [] ∧ (nextM d.mark (d.many - 1)).2 = 0 := by
  by_cases h2 : d.kind = 2
  · by_cases h3 : checkM d.mark = 0
    · by_cases h4 : noneM d.run.1 = false ∨ d.run.2 ≠ []
      · rw [checkD_take_form h1 h2 h3 h4] at h; cases h
      · have h4a : noneM d.run.1 = true := by cases h5 : noneM d.run.1 with
          | true => rfl
          | false => exact absurd (.inl h5) h4
        have h4b : d.run.2 = [] := by
          by_cases h5 : d.run.2 = []
          · exact h5
          · exact absurd (.inr h5) h4
        by_cases h5 : d.many < 1 ∨ 60 < d.many
        · rw [checkD_take_range h1 h2 h3 h4a h4b h5] at h; cases h
        · rw [checkD_take_next h1 h2 h3 h4a h4b h5] at h
          refine ⟨h2, h3, ⟨d.many.toNat, by omega, by omega, by omega⟩, h4a, h4b, h⟩
    · rw [checkD_take_bad h1 h2 h3] at h; exact absurd h h3
  · rw [checkD_kind h1 h2] at h; cases h
theorem deed_put {d : De} (h : checkD d = 0) (h1 : d.kind = 1) : checkR d.run = 0 ∧ noneM d.mark = true ∧ d.many = 0 := by
  by_cases h2 : checkR d.run = 0
  · by_cases h3 : noneM d.mark = false ∨ d.many ≠ 0
    · rw [checkD_put_form h1 h2 h3] at h; cases h
    · refine ⟨h2, ?_, ?_⟩
      · cases h5 : noneM d.mark with
        | true => rfl
        | false => exact absurd (.inl h5) h3
      · by_cases h5 : d.many = 0
        · exact h5
        · exact absurd (.inr h5) h3
  · rw [checkD_put_bad h1 h2] at h; exact absurd h h2
end Go.Proofs.Ytiladkinndgeaaa
/- Notes as bytes, plain: what they are, and how they are read, by the program and by the document. -/
namespace Go.Proofs.Ytiladkinndgeaaa
open Go Cp

def b8 (n : Int) : UInt8 := UInt8.ofNat (n % 256).toNat
section
variable {α : Type}
end
section
variable {α : Type}
end
theorem noneM_is {m : Mk} (h : noneM m = true) : m = ([], 0) := by
  unfold noneM at h
  simp at h
  obtain ⟨p, c⟩ := m
  obtain ⟨h1, h2⟩ := h
  simp only at h1 h2
  rw [h1, h2]
theorem checkN_okP {n : No} (h : checkN n = 0) : inB n.site 0 4 = true ∧ inB n.number 1 500 = true ∧ n.needs.length = 5 ∧ n.needs.any badI = false ∧ n.needs[n.site.toNat]?.getD 0 = n.number - 1 ∧ n.deeds.length ≠ 0 ∧ n.deeds.length ≤ 20 ∧ checkDL n.deeds = 0 := by
  cases h1 : inB n.site 0 4 with
  | false => rw [checkN_site h1] at h; cases h
  | true =>
    cases h2 : inB n.number 1 500 with
    | false => rw [checkN_number h2] at h; cases h
    | true =>
      by_cases h3 : n.needs.length = 5
      · cases h4 : n.needs.any badI with
        | true => rw [checkN_needs h1 h2 h3 h4] at h; cases h
        | false =>
          rw [checkN_rest h1 h2 h3 h4] at h
          by_cases h5 : n.needs[n.site.toNat]?.getD 0 = n.number - 1
          · rw [if_neg (by simpa using h5)] at h
            by_cases h6 : n.deeds.length = 0
            · rw [if_pos h6] at h; cases h
            · rw [if_neg h6] at h
              by_cases h7 : 20 < n.deeds.length
              · rw [if_pos h7] at h; cases h
              · rw [if_neg h7] at h
                exact ⟨rfl, rfl, h3, rfl, h5, h6, by omega, h⟩
          · rw [if_pos h5] at h; cases h
      · rw [checkN_len h1 h2 h3] at h; cases h
end Go.Proofs.Ytiladkinndgeaaa
/- Atoms of one's own. -/
namespace Go.Proofs.Ytiladkinndgeaaa
open Go Go.RowKit Go.BigFrame Cp

end Go.Proofs.Ytiladkinndgeaaa
/- Deeds, with errors: behind so many. -/
namespace Go.Proofs.Ytiladkinndgeaaa
open Go Go.RowKit Cp

end Go.Proofs.Ytiladkinndgeaaa
