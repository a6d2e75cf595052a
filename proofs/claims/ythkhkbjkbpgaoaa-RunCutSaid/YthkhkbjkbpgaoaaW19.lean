/- Are these the marks between two? Where they are, the reference says so. -/
import Derived.Test.YthkhkbjkbpgaoaaW18
import Derived.Test.YthkhkbjkbpgaoaaLate
set_option linter.unusedVariables false
set_option linter.unusedSimpArgs false
namespace Go.Proofs.Ythkhkbjkbpgaoaa
open Go Go.RowKit Go.BigFrame Cp

theorem is_parts {a b : Mk} {site clock many : Int} {q : List Mk} (h : isBetweenB a b site clock many q = true) :
    (q.length : Int) = many ∧ ∀ (i : Nat) (x : Mk), q[i]? = some x → checkM x = 0 ∧ x.2 = clock + i ∧ lastSite x.1 = site ∧ (x.1.length : Int) ≤ deepM a b many ∧
      (∀ y, 0 < i → q[i - 1]? = some y → ordM y x < 0) ∧ (noneM a = false → ordM a x < 0) ∧ (noneM b = false → ordM x b < 0) := by
  unfold isBetweenB at h
  simp only [Bool.and_eq_true, decide_eq_true_eq, List.all_eq_true, List.mem_range] at h
  refine ⟨h.1, fun i x hx => ?_⟩
  have hi : i < q.length := (List.getElem?_eq_some_iff.1 hx).1
  have := h.2 i hi
  unfold okAt at this
  have e : q.getD i ([], 0) = x := by simp [List.getD, hx]
  rw [e] at this
  simp only [Bool.and_eq_true, decide_eq_true_eq, Bool.or_eq_true] at this
  obtain ⟨⟨⟨⟨⟨⟨h1, h2⟩, h3⟩, h4⟩, h5⟩, h6⟩, h7⟩ := this
  refine ⟨h1, h2, h3, h4, fun y h0 hy => ?_, fun hn => ?_, fun hn => ?_⟩
  · rcases h5 with h5 | h5
    · omega
    · have e2 : q.getD (i - 1) ([], 0) = y := by simp [List.getD, hy]
      rwa [e2] at h5
  · rcases h6 with h6 | h6
    · rw [hn] at h6; cases h6
    · exact h6
  · rcases h7 with h7 | h7
    · rw [hn] at h7; cases h7
    · exact h7

/-- a mark of a list, where it lies -/
theorem mk_at {F : Nat → Prop} {w : World} {a : Option Addr} {n cap : Nat} {q : List Mk} (h : RSl RMk 2 F w (.slice a n cap) q) {i : Nat} (hi : i < n) :
    ∃ b o p c ap cp, a = some ⟨b, o, none⟩ ∧ b < w.heap.size ∧ q[i]? = some (p, c) ∧ I64 c ∧ RSl RStp 2 F w (.slice ap p.length cp) p ∧
      w.cell? ⟨b, o + i * 2, none⟩ = some (.slice ap p.length cp) ∧ w.cell? ⟨b, o + i * 2 + 1, none⟩ = some (.int .i64 c) := by
  obtain ⟨b, o, x, cs, e1, e2, e3, _, e4, v, rfl, h1, h2⟩ := h.at_ hi
  obtain ⟨ap, np, cp, rfl⟩ := h1.slice
  obtain ⟨rfl, _, _⟩ := h1.len
  exact ⟨b, o, x.1, x.2, ap, cp, e1, e2, e3, h2, h1, by simpa using e4 0 _ rfl, by simpa [Nat.add_assoc] using e4 1 _ rfl⟩


theorem okLast {m : Mk} (h : checkM m = 0) : 0 < m.1.length ∧ m.1.length ≤ 10 := by
  obtain ⟨h1, h2, _⟩ := checkM_ok.1 h
  exact ⟨List.length_pos_iff.2 h2, h1⟩
theorem last_site {p : List Stp} {x y : Int} (h : p[p.length - 1]? = some (x, y)) : lastSite p = y := by
  unfold lastSite
  rw [List.getLast?_eq_getElem?, h]; rfl
theorem deep_two {l m : List Stp} {c d many : Int} (h : 1 < many) : ((max l.length m.length : Nat) : Int) + 1 + 1 = deepM (l, c) (m, d) many := by unfold deepM; simp only []; split <;> omega
theorem deep_one {l m : List Stp} {c d many : Int} (h : ¬ 1 < many) : ((max l.length m.length : Nat) : Int) + 1 = deepM (l, c) (m, d) many := by unfold deepM; simp only []; split <;> omega
theorem not_ge {n : Int} (h : n < 0) : decide (0 ≤ n) = false := decide_eq_false (by omega)

set_option maxRecDepth 100000 in
set_option maxHeartbeats 4000000 in
theorem isBetween_any {F G H : Nat → Prop} {w : World} {cs ds : List Value} {v : Value} {a b : Mk} {site clock many : Int} {q : List Mk} (ha : RMk F w cs a) (hb : RMk G w ds b) (hq : RSl RMk 2 H w v q)
    (hok : isBetweenB a b site clock many q = true) (hc : 1 ≤ clock ∧ clock ≤ 10000) (hm : 1 ≤ many ∧ many ≤ 60) (hla : a.1.length ≤ 8) (hlb : b.1.length ≤ 8) :
    Calls Try.prog 38 #[.agg cs.toArray, .agg ds.toArray, .int .i64 site, .int .i64 clock, .int .i64 many, v] w fun e w' => e = .returned (.bool true) ∧ Ext w w' := by
  obtain ⟨hlen, hparts⟩ := is_parts hok
  have HA := Lib.hid (fun (W : World) (hx : Ext w W) => gMk.ext ha hx)
  have HB := Lib.hid (fun (W : World) (hx : Ext w W) => gMk.ext hb hx)
  obtain ⟨va, rfl, hl, _⟩ := ha
  obtain ⟨vb, rfl, hmm, _⟩ := hb
  obtain ⟨l, c⟩ := a
  obtain ⟨m, d⟩ := b
  simp only at hl hmm HA HB hla hlb ⊢
  obtain ⟨a1, n1, c1, rfl⟩ := hl.slice
  obtain ⟨a2, n2, c2, rfl⟩ := hmm.slice
  obtain ⟨a0, n0, c0, rfl⟩ := hq.slice
  obtain ⟨rfl, _, _⟩ := hl.len
  obtain ⟨rfl, _, _⟩ := hmm.len
  obtain ⟨rfl, _, _⟩ := hq.len
  obtain ⟨b1, b2⟩ := hc
  obtain ⟨b3, b4⟩ := hm
  obtain ⟨bq, oq, _, _, _, _, rfl, hbq, _⟩ := mk_at hq (i := 0) (by omega)
  have HQ := Lib.hid hq
  have HP := Lib.hid hparts
  have hq60 : q.length ≤ 60 := by omega
  have t0 : ((q.length : Int) != many) = false := by rw [hlen]; simp
  have HLEN := Lib.hid hlen
  clear hl hmm hq hparts hok hlen
  obtain ⟨dp, hdp⟩ : ∃ dp : Int, dp = deepM (l, c) (m, d) many := ⟨_, rfl⟩
  have HDP := Lib.hid hdp
  clear hdp
  go_enter Try.func38, Try.ntmps38
  go_upto_if 27 with (fail)
  go_cut [13] from 27 (fun s wc => s = .int .i64 (max l.length m.length : Nat) ∧ Hid (Ext w wc) ∧ wc.cell? ⟨w.heap.size, 0, none⟩ = some (.slice a1 l.length c1) ∧ wc.cell? ⟨w.heap.size, 1, none⟩ = some (.int .i64 c) ∧
      wc.cell? ⟨w.heap.size + 1, 0, none⟩ = some (.slice a2 m.length c2) ∧ wc.cell? ⟨w.heap.size + 1, 1, none⟩ = some (.int .i64 d) ∧ w.heap.size + 1 < wc.heap.size)
  case first =>
    by_cases h1 : (l.length : Int) < m.length
    · have t1 : decide ((l.length : Int) < m.length) = true := decide_eq_true h1
      go_wp2_with fail
      go_meet
      exact ⟨by congr 1; omega, ext_alloc (ext_alloc (ext_refl _) _) _, by go_simp, by go_simp, by go_simp, by go_simp, by simp⟩
    · have t1 : decide ((l.length : Int) < m.length) = false := decide_eq_false h1
      go_wp2_with fail
      go_meet
      exact ⟨by congr 1; omega, ext_alloc (ext_alloc (ext_refl _) _) _, by go_simp, by go_simp, by go_simp, by go_simp, by simp⟩
  case rest =>
    obtain ⟨rfl, HX0, e0, e1, e2, e3, hz0⟩ := hcut
    obtain ⟨wd, rfl⟩ : ∃ wd : World, wd = wc := ⟨_, rfl⟩
    go_upto_if 34 with fail
    go_cut [13] from 34 (fun s wx => s = .int .i64 dp ∧ wd = wx)
    case first =>
      by_cases h2 : 1 < many
      · have t1 : decide (1 < many) = true := decide_eq_true h2
        have HD2 := Lib.hid (deep_two (l := l) (m := m) (c := c) (d := d) h2)
        go_wp2_with fail
        go_meet
        exact ⟨by rw [HDP.out, ← HD2.out], rfl⟩
      · have t1 : decide (1 < many) = false := decide_eq_false h2
        have HD2 := Lib.hid (deep_one (l := l) (m := m) (c := c) (d := d) h2)
        go_wp2_with fail
        go_meet
        exact ⟨by rw [HDP.out, ← HD2.out], rfl⟩
    case rest =>
      obtain ⟨rfl, rfl⟩ := hcut
      go_wp2_with fail
      go_loopw [14] (fun i wr => ∃ k : Nat, k ≤ q.length ∧ i = .int .i64 k ∧ Ext wd wr) (fun i _ => q.length - (intOf i).toNat)
      case atStart => exact ⟨0, Nat.zero_le _, rfl, ext_refl _⟩
      case round =>
        obtain ⟨k, hk, rfl, hx⟩ := hrel
        have hsz := hx.size
        have z0 := (hx.cells w.heap.size 0 (by omega)).trans e0
        have z1 := (hx.cells w.heap.size 1 (by omega)).trans e1
        have z2 := (hx.cells (w.heap.size + 1) 0 (by omega)).trans e2
        have z3 := (hx.cells (w.heap.size + 1) 1 (by omega)).trans e3
        have HX := Lib.hid (ext_trans HX0.out hx)
        have HXR := Lib.hid hx
        clear hx
        by_cases hlt : k < q.length
        · obtain ⟨bk, ok, p, ck, ap, cp, ea, hbk, ek, ick, hpp, y0, y1⟩ := mk_at (HQ.out.ext gMk HX.out) hlt
          obtain ⟨rfl, rfl⟩ : bq = bk ∧ oq = ok := by injection ea with ea; injection ea with ea1 ea2; exact ⟨ea1, ea2⟩
          clear ea
          obtain ⟨p1, p2, p3, p4, p5, p6, p7⟩ := HP.out k (p, ck) ek
          obtain ⟨q1, q2⟩ := okLast p1
          simp only at p2 p3 p4 p6 p7 q1 q2
          subst p2
          obtain ⟨bp, op_, xl, yl, ea, hbp, el, ixl, iyl, u0, u1⟩ := stp_at hpp (i := p.length - 1) (by omega)
          subst ea
          have t6 : (yl != site) = false := by rw [← last_site el, p3]; simp
          have t7 : decide (dp < (p.length : Int)) = false := decide_eq_false (by rw [HDP.out]; omega)
          have HPX := Lib.hid (fun (W : World) (hx : Ext wr W) => (show RMk H W [.slice (some ⟨bp, op_, none⟩) p.length cp, .int .i64 (clock + k)] (p, clock + (k : Int)) from ⟨_, rfl, hpp.ext gStp hx, ick⟩))
          have HC := Lib.hid (fun (W : World) (hx : Ext wr W) => checkMark_any (HPX.out W hx))
          rw [p1] at HC
          have HP5 := Lib.hid p5
          have HP6 := Lib.hid p6
          have HP7 := Lib.hid p7
          clear p1 p4 p3 p5 p6 p7 el ek hpp
          have hn1 : ¬ w.heap.size = wr.heap.size := by omega
          have hn2 : ¬ w.heap.size + 1 = wr.heap.size := by omega
          have hn3 : ¬ bp = wr.heap.size := by omega
          have hn4 : ¬ bq = wr.heap.size := by omega
          have hn5 : ¬ wr.heap.size = w.heap.size := by omega
          have hn6 : ¬ wr.heap.size = w.heap.size + 1 := by omega
          have hn7 : w.heap.size < wr.heap.size := by omega
          have hn8 : w.heap.size + 1 < wr.heap.size := by omega
          have hn9 : bq < wr.heap.size := by omega
          go_wp2_with (go_at_call 26; ((with_reducible refine (HC.out _ (by repeat (first | (with_reducible exact ext_refl _) | (with_reducible assumption) | (with_reducible refine ext_drew ?_) | (with_reducible refine ext_drewN ?_ _) | (with_reducible refine ext_alloc ?_ _) | (with_reducible refine ext_set ?_ (by first | omega | (simp <;> omega)) _) | (with_reducible refine ext_trans ?_ (by with_reducible assumption))))).mono ?_); rintro e w1 ⟨rfl, hx1⟩; have x0 := (hx1.cells (w.heap.size) 0 (by simp <;> omega)).trans (show _ = some (.slice a1 l.length c1) by go_simp); have x1 := (hx1.cells (w.heap.size) 1 (by simp <;> omega)).trans (show _ = some (.int .i64 c) by go_simp); have x2 := (hx1.cells (w.heap.size + 1) 0 (by simp <;> omega)).trans (show _ = some (.slice a2 m.length c2) by go_simp); have x3 := (hx1.cells (w.heap.size + 1) 1 (by simp <;> omega)).trans (show _ = some (.int .i64 d) by go_simp); have x4 := (hx1.cells (wr.heap.size) 0 (by simp <;> omega)).trans (show _ = some (.slice (some ⟨bp, op_, none⟩) p.length cp) by go_simp); have x5 := (hx1.cells (wr.heap.size) 1 (by simp <;> omega)).trans (show _ = some (.int .i64 (clock + k)) by go_simp); have x6 := (hx1.cells (bp) (op_ + (p.length - 1) * 2 + 1) (by simp <;> omega)).trans (show _ = some (.int .i64 yl) by go_simp); have x7 := (hx1.cells (bp) (op_ + (p.length - 1) * 2) (by simp <;> omega)).trans (show _ = some (.int .i64 xl) by go_simp); have hz1 := hx1.size; (try simp at hz1); have HX1 := Lib.hid hx1; clear hx1))
          have hv1 : bq < w1.heap.size := by omega
          have hv2 : w.heap.size < w1.heap.size := by omega
          have hv3 : w.heap.size + 1 < w1.heap.size := by omega
          have hv4 : wr.heap.size < w1.heap.size := by omega
          have hw1 : Ext wr w1 := ext_trans (ext_alloc (ext_refl _) _) HX1.out
          have HNA := Lib.hid (fun (W : World) (hx : Ext wr W) => none_any (HA.out W (ext_trans HX.out hx)))
          have HNB := Lib.hid (fun (W : World) (hx : Ext wr W) => none_any (HB.out W (ext_trans HX.out hx)))
          have HOA := Lib.hid (fun (W : World) (hx : Ext wr W) => orderOf_any (HA.out W (ext_trans HX.out hx)) (HPX.out W hx))
          have HOB := Lib.hid (fun (W : World) (hx : Ext wr W) => orderOf_any (HPX.out W hx) (HB.out W (ext_trans HX.out hx)))
          by_cases hk0 : k = 0
          · have t8 : decide (0 < (k : Int)) = false := decide_eq_false (by omega)
            have t8b : decide (0 < k) = false := decide_eq_false (by omega)
            clear hk0
            cases hna : noneM (l, c) with
            | true =>
              cases hnb : noneM (m, d) with
              | true =>
                refine wp_region_later fol (by kernel_rfl) (fun hlater => ?_)
                repeat (go_big_quiet_step ((first
                    | (go_at_call 25; (with_reducible exact later_of (HNA.out _ (ext_trans hw1 (Later.ext _)))))
                    | (go_at_call 25; (with_reducible exact later_of (HNB.out _ (ext_trans hw1 (Later.ext _))))))))
                refine wpQuiet_nil ?_
                rintro _ ⟨⟨w3, hx3⟩, rfl⟩
                clear hlater
                go_wp2_with fail
                go_roundw
                case rel => exact ⟨k + 1, by omega, by go_num, ext_trans HXR.out (ext_trans hw1 hx3)⟩
                case measure => simp [intOf]; omega
              | false =>
                have t10 := not_ge (HP7.out hnb)
                refine wp_region_later fol (by kernel_rfl) (fun hlater => ?_)
                repeat (go_big_quiet_step ((first
                    | (go_at_call 25; (with_reducible exact later_of (HNA.out _ (ext_trans hw1 (Later.ext _)))))
                    | (go_at_call 25; (with_reducible exact later_of (HNB.out _ (ext_trans hw1 (Later.ext _)))))
                    | (go_at_call 35; (with_reducible exact later_of (HOB.out _ (ext_trans hw1 (Later.ext _))))))))
                refine wpQuiet_nil ?_
                rintro _ ⟨⟨w3, hx3⟩, rfl⟩
                clear hlater
                go_wp2_with fail
                go_roundw
                case rel => exact ⟨k + 1, by omega, by go_num, ext_trans HXR.out (ext_trans hw1 hx3)⟩
                case measure => simp [intOf]; omega
            | false =>
              cases hnb : noneM (m, d) with
              | true =>
                have t9 := not_ge (HP6.out hna)
                refine wp_region_later fol (by kernel_rfl) (fun hlater => ?_)
                repeat (go_big_quiet_step ((first
                    | (go_at_call 25; (with_reducible exact later_of (HNA.out _ (ext_trans hw1 (Later.ext _)))))
                    | (go_at_call 25; (with_reducible exact later_of (HNB.out _ (ext_trans hw1 (Later.ext _)))))
                    | (go_at_call 35; (with_reducible exact later_of (HOA.out _ (ext_trans hw1 (Later.ext _))))))))
                refine wpQuiet_nil ?_
                rintro _ ⟨⟨w3, hx3⟩, rfl⟩
                clear hlater
                go_wp2_with fail
                go_roundw
                case rel => exact ⟨k + 1, by omega, by go_num, ext_trans HXR.out (ext_trans hw1 hx3)⟩
                case measure => simp [intOf]; omega
              | false =>
                have t9 := not_ge (HP6.out hna)
                have t10 := not_ge (HP7.out hnb)
                refine wp_region_later fol (by kernel_rfl) (fun hlater => ?_)
                repeat (go_big_quiet_step ((first
                    | (go_at_call 25; (with_reducible exact later_of (HNA.out _ (ext_trans hw1 (Later.ext _)))))
                    | (go_at_call 25; (with_reducible exact later_of (HNB.out _ (ext_trans hw1 (Later.ext _)))))
                    | (go_at_call 35; (with_reducible exact later_of (HOA.out _ (ext_trans hw1 (Later.ext _)))))
                    | (go_at_call 35; (with_reducible exact later_of (HOB.out _ (ext_trans hw1 (Later.ext _))))))))
                refine wpQuiet_nil ?_
                rintro _ ⟨⟨w3, hx3⟩, rfl⟩
                clear hlater
                go_wp2_with fail
                go_roundw
                case rel => exact ⟨k + 1, by omega, by go_num, ext_trans HXR.out (ext_trans hw1 hx3)⟩
                case measure => simp [intOf]; omega
          · have t8 : decide (0 < (k : Int)) = true := decide_eq_true (by omega)
            have t8b : decide (0 < k) = true := decide_eq_true (by omega)
            have hk1 : 1 ≤ k := by omega
            clear hk0
            obtain ⟨bk1, ok1, pv, cv, ap1, cp1, ea, _, ek1, icv, hpv, v0, v1⟩ := mk_at (HQ.out.ext gMk HX.out) (i := k - 1) (by omega)
            obtain ⟨rfl, rfl⟩ : bq = bk1 ∧ oq = ok1 := by injection ea with ea; injection ea with ea1 ea2; exact ⟨ea1, ea2⟩
            clear ea
            have x8 := (HX1.out.cells bq (oq + (k - 1) * 2) (by simp <;> omega)).trans (show _ = some (.slice ap1 pv.length cp1) by go_simp)
            have x9 := (HX1.out.cells bq (oq + (k - 1) * 2 + 1) (by simp <;> omega)).trans (show _ = some (.int .i64 cv) by go_simp)
            have HOP := Lib.hid (fun (W : World) (hx : Ext wr W) => orderOf_any (w := W) (cs := [.slice ap1 pv.length cp1, .int .i64 cv]) (a := (pv, cv)) ⟨_, rfl, hpv.ext gStp hx, icv⟩ (HPX.out W hx))
            have t11 := not_ge (HP5.out (pv, cv) (by omega) ek1)
            clear ek1 hpv
            cases hna : noneM (l, c) with
            | true =>
              cases hnb : noneM (m, d) with
              | true =>
                refine wp_region_later fol (by kernel_rfl) (fun hlater => ?_)
                repeat (go_big_quiet_step ((first
                    | (go_at_call 35; (with_reducible exact later_of (HOP.out _ (ext_trans hw1 (Later.ext _)))))
                    | (go_at_call 25; (with_reducible exact later_of (HNA.out _ (ext_trans hw1 (Later.ext _)))))
                    | (go_at_call 25; (with_reducible exact later_of (HNB.out _ (ext_trans hw1 (Later.ext _))))))))
                refine wpQuiet_nil ?_
                rintro _ ⟨⟨w3, hx3⟩, rfl⟩
                clear hlater
                go_wp2_with fail
                go_roundw
                case rel => exact ⟨k + 1, by omega, by go_num, ext_trans HXR.out (ext_trans hw1 hx3)⟩
                case measure => simp [intOf]; omega
              | false =>
                have t10 := not_ge (HP7.out hnb)
                refine wp_region_later fol (by kernel_rfl) (fun hlater => ?_)
                repeat (go_big_quiet_step ((first
                    | (go_at_call 35; (with_reducible exact later_of (HOP.out _ (ext_trans hw1 (Later.ext _)))))
                    | (go_at_call 25; (with_reducible exact later_of (HNA.out _ (ext_trans hw1 (Later.ext _)))))
                    | (go_at_call 25; (with_reducible exact later_of (HNB.out _ (ext_trans hw1 (Later.ext _)))))
                    | (go_at_call 35; (with_reducible exact later_of (HOB.out _ (ext_trans hw1 (Later.ext _))))))))
                refine wpQuiet_nil ?_
                rintro _ ⟨⟨w3, hx3⟩, rfl⟩
                clear hlater
                go_wp2_with fail
                go_roundw
                case rel => exact ⟨k + 1, by omega, by go_num, ext_trans HXR.out (ext_trans hw1 hx3)⟩
                case measure => simp [intOf]; omega
            | false =>
              cases hnb : noneM (m, d) with
              | true =>
                have t9 := not_ge (HP6.out hna)
                refine wp_region_later fol (by kernel_rfl) (fun hlater => ?_)
                repeat (go_big_quiet_step ((first
                    | (go_at_call 35; (with_reducible exact later_of (HOP.out _ (ext_trans hw1 (Later.ext _)))))
                    | (go_at_call 25; (with_reducible exact later_of (HNA.out _ (ext_trans hw1 (Later.ext _)))))
                    | (go_at_call 25; (with_reducible exact later_of (HNB.out _ (ext_trans hw1 (Later.ext _)))))
                    | (go_at_call 35; (with_reducible exact later_of (HOA.out _ (ext_trans hw1 (Later.ext _))))))))
                refine wpQuiet_nil ?_
                rintro _ ⟨⟨w3, hx3⟩, rfl⟩
                clear hlater
                go_wp2_with fail
                go_roundw
                case rel => exact ⟨k + 1, by omega, by go_num, ext_trans HXR.out (ext_trans hw1 hx3)⟩
                case measure => simp [intOf]; omega
              | false =>
                have t9 := not_ge (HP6.out hna)
                have t10 := not_ge (HP7.out hnb)
                refine wp_region_later fol (by kernel_rfl) (fun hlater => ?_)
                repeat (go_big_quiet_step ((first
                    | (go_at_call 35; (with_reducible exact later_of (HOP.out _ (ext_trans hw1 (Later.ext _)))))
                    | (go_at_call 25; (with_reducible exact later_of (HNA.out _ (ext_trans hw1 (Later.ext _)))))
                    | (go_at_call 25; (with_reducible exact later_of (HNB.out _ (ext_trans hw1 (Later.ext _)))))
                    | (go_at_call 35; (with_reducible exact later_of (HOA.out _ (ext_trans hw1 (Later.ext _)))))
                    | (go_at_call 35; (with_reducible exact later_of (HOB.out _ (ext_trans hw1 (Later.ext _))))))))
                refine wpQuiet_nil ?_
                rintro _ ⟨⟨w3, hx3⟩, rfl⟩
                clear hlater
                go_wp2_with fail
                go_roundw
                case rel => exact ⟨k + 1, by omega, by go_num, ext_trans HXR.out (ext_trans hw1 hx3)⟩
                case measure => simp [intOf]; omega
        · go_wp2_with fail
          go_ret
          exact ⟨rfl, HX.out⟩
end Go.Proofs.Ythkhkbjkbpgaoaa
