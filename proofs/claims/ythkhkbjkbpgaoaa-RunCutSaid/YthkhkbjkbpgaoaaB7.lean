/- run.Of, by the program. -/
import Derived.Test.YthkhkbjkbpgaoaaBP
set_option linter.unusedVariables false
set_option linter.unusedSimpArgs false
namespace Go.Proofs.Ythkhkbjkbpgaoaa
open Go Go.RowKit Go.BigFrame Cp

set_option maxRecDepth 100000 in
set_option maxHeartbeats 4000000 in
theorem runOf_any {F : Nat → Prop} {w : World} {v : Value} {l : List At} (h : RSl RAt 3 F w v l) (hc : checkA l = 0) :
    Calls Try.prog 81 #[v] w (IsRunsR (runsA l) w) := by
  have HOK := Lib.hid (checkA_ok hc)
  have hl3 := HOK.out.1
  have HL := Lib.hid (fun (W : World) (hx : Ext w W) => h.ext gAt hx)
  obtain ⟨a0, n0, c0, rfl⟩ := h.slice
  obtain ⟨rfl, _, _⟩ := h.len
  obtain ⟨i0, hi0, hz0, hz1', hz2⟩ := info_parts info_run
  have HJ := Lib.hid hi0
  have HZ0 := Lib.hid hz0
  have HZ1 := Lib.hid hz1'
  have HZ2 := Lib.hid hz2
  clear h hc hi0 hz0 hz1' hz2
  go_enter Try.func81, Try.ntmps81
  go_wp2
  go_loopw [3, 9] (fun ov iv wr => ∃ k : Nat, k ≤ l.length ∧ iv = .int .i64 k ∧ Hid (OSl RRn 3 67 w.heap.size (fun j => w.heap.size ≤ j) wr ov (runsA (l.take k))) ∧ Hid (RunsOk (runsA (l.take k))) ∧ Ext w wr) (fun _ iv _ => l.length - (intOf iv).toNat)
  case atStart => exact ⟨0, Nat.zero_le _, rfl, Lib.hid osl_nil, Lib.hid (fun r hr => by simp [runsA] at hr), ext_refl _⟩
  case round =>
    obtain ⟨k, hk, rfl, HO, HR, hx⟩ := hrel
    have hzr := hx.size
    have HX := Lib.hid hx
    clear hx
    obtain ⟨a5, n5, c5, rfl⟩ := osl_slice HO.out
    by_cases hlt : k < l.length
    · obtain ⟨b, o, p, d, s, ap, cp, rfl, hb, ek, ick, hpp, y0, y1, y2⟩ := atm_at (HL.out wr HX.out) hlt
      have hat := HOK.out.2.2 _ (List.mem_of_getElem? ek)
      have HS := Lib.hid (runsA_step ek)
      have HRN := Lib.hid (show RunsOk (runsA (l.take (k + 1))) by rw [HS.out]; exact runsOk_step HR.out hat.1)
      have hql := runsA_len l k
      have HOW := Lib.hid (fun (W : World) (hx : Ext wr W) => own_any (rmk_of' (hpp.ext gStp hx) ick) (check_len hat.1))
      have HAT := Lib.hid (fun (W : World) (hx : Ext wr W) => rat_of (s := s) (hpp.ext gStp hx) ick)
      have HIC := Lib.hid ick
      have hs127 : s.toNat ≤ 126 := by
        have h1 := hat.2
        rw [sgn_in] at h1
        unfold inB at h1
        simp at h1
        omega
      obtain ⟨eb, heb⟩ : ∃ eb : ByteArray, eb = ⟨#[s]⟩ := ⟨_, rfl⟩
      have henc : Utf8.encode ((s.toNat : Nat) : Int) = eb := by rw [heb]; exact encode_sign hs127
      have HEB := Lib.hid heb
      have hebs : eb.size ≤ 1 := by rw [heb]; exact Nat.le_refl 1
      clear heb
      have hs32 : 32 ≤ s.toNat := by
        have h1 := hat.2
        rw [sgn_in] at h1
        unfold inB at h1
        simp at h1
        omega
      have hn1 : ¬ b = wr.heap.size := by omega
      have hn2 : ¬ wr.heap.size = b := by omega
      have HOL := Lib.hid (osl_lt HO.out)
      clear ek hpp ick hat
      generalize hqq : runsA (l.take k) = q at *
      clear hqq
      by_cases hq0 : q.length = 0
      · obtain rfl : q = [] := List.length_eq_zero_iff.1 hq0
        obtain rfl : n5 = 0 := (osl_len HO.out).1
        rw [runStep_nil] at HS
        clear hq0 hql
        go_wp2_with fail
        refine wp_name (fun W2 eW2 => ?_)
        have e0 : W2.cell? ⟨wr.heap.size, 0, none⟩ = some (.slice ap p.length cp) := by rw [eW2]; go_simp
        have e1 : W2.cell? ⟨wr.heap.size, 1, none⟩ = some (.int .i64 d) := by rw [eW2]; go_simp
        have e2 : W2.cell? ⟨wr.heap.size, 2, none⟩ = some (.int .u8 s.toNat) := by rw [eW2]; go_simp
        have zW2_0 : wr.heap.size < W2.heap.size := by rw [eW2]; first | assumption | omega | (simp <;> omega)
        have hw2 : Ext wr W2 := by rw [eW2]; exact (by repeat (first | (with_reducible exact ext_refl _) | (with_reducible assumption) | (with_reducible refine ext_drew ?_) | (with_reducible refine ext_drewN ?_ _) | (with_reducible refine ext_alloc ?_ _) | (with_reducible refine ext_set ?_ (by first | omega | (simp <;> omega)) _) | (with_reducible refine ext_trans ?_ (by with_reducible assumption))))
        clear eW2
        refine wp_region_later fol (by kernel_rfl) (fun hlater => ?_)
        repeat (go_big_quiet_step ((fail)))
        refine wpQuiet_nil ?_
        rintro w3 ⟨⟨w3x, hx3⟩, rfl⟩
        clear hlater
        have fz0 := (hx3.cells wr.heap.size 0 (by omega)).trans e0
        have fz1 := (hx3.cells wr.heap.size 1 (by omega)).trans e1
        have fz2 := (hx3.cells wr.heap.size 2 (by omega)).trans e2
        have hz3 := hx3.size
        have hw3 : Ext wr w3 := ext_trans hw2 hx3
        have hb3 : wr.heap.size < w3.heap.size := by omega
        go_wp2_with (first
          | (go_at_call 57; go_must ((with_reducible refine (HOW.out _ (ext_trans hw3 (by repeat (first | (with_reducible exact ext_refl _) | (with_reducible assumption) | (with_reducible refine ext_drew ?_) | (with_reducible refine ext_drewN ?_ _) | (with_reducible refine ext_alloc ?_ _) | (with_reducible refine ext_set ?_ (by first | omega | (simp <;> omega)) _) | (with_reducible refine ext_trans ?_ (by with_reducible assumption)))))).mono ?_); rintro e w4 ⟨cs4, rfl, hm4, hx4⟩; have HM4 := Lib.hid (omk_mk hm4); obtain ⟨v4, rfl, hv4, _⟩ := hm4; obtain ⟨a4, n4, c4, rfl⟩ := osl_slice hv4; have hz4 := hx4.size; have m0 := (hx4.cells (wr.heap.size) (0) (by first | omega | (simp <;> omega))).trans (show _ = some (.slice ap p.length cp) by first | assumption | go_simp); have m1 := (hx4.cells (wr.heap.size) (1) (by first | omega | (simp <;> omega))).trans (show _ = some (.int .i64 d) by first | assumption | go_simp); have m2 := (hx4.cells (wr.heap.size) (2) (by first | omega | (simp <;> omega))).trans (show _ = some (.int .u8 s.toNat) by first | assumption | go_simp); have hb4 : wr.heap.size < w4.heap.size := (by omega); clear hv4))
          | (at_builtin; go_must (refine wpList_app1 gRn rfl (.tmp 27) (.tmp 32) 70 rfl w.heap.size 67 i0 _ 3 48 Try.underlying70 HJ.out HZ0.out HZ1.out HZ2.out rfl (by omega) (F := fun j => w.heap.size ≤ j) (G := fun j => w3.heap.size ≤ j) (.slice a5 0 c5) [] rfl (osl_ext gRn HO.out (ext_trans hw3 (by repeat (first | (with_reducible exact ext_refl _) | (with_reducible assumption) | (with_reducible refine ext_drew ?_) | (with_reducible refine ext_drewN ?_ _) | (with_reducible refine ext_alloc ?_ _) | (with_reducible refine ext_set ?_ (by first | omega | (simp <;> omega)) _) | (with_reducible refine ext_trans ?_ (by with_reducible assumption)))))) w4.heap.size 0 1 [.slice a4 n4 c4, .int .i64 d, .string ⟨#[]⟩] ((p, d), []) rfl rfl (rangeAt3 (by go_simp) (by go_simp) (by go_simp)) (one_rn _ w4 _ ((p, d), []) (rrn_of ((rmk_path HM4.out)) HIC.out ⟨rfl, by simp⟩)) (rrn_of ((rmk_path HM4.out).ext gStp (ext_alloc (ext_refl _) _)) HIC.out ⟨rfl, by simp⟩) (fun j hj _ => ⟨(show w.heap.size ≤ j by omega), fun e => by have := (HOL.out j e.symm).2; omega⟩) (by simp only [maxLen, List.length_nil]; omega) (by simp only [List.length_nil]; omega) (by simp; omega) ?_; intro v9 w9 hown9 hg9 hat9; obtain ⟨a9, n9, c9, rfl⟩ := osl_slice hown9)))
        obtain ⟨g9, px, dx, sx, apx, cpx, ea9, hb9, hs9, ex9, hsx, ix9, hpx, v0', v1', v2', vf'⟩ := orun_at hown9 (i := 0) (by simp)
        subst ea9
        obtain rfl : n9 = 1 := (osl_len hown9).1
        have hxe : ((p, d), []) = ((px, dx), sx.data.toList) := by simpa using ex9
        have hsx0 : sx.data.toList = [] := tx_nil hxe
        have hsxs : sx.size = 0 := by have h7 : sx.data.toList.length = 0 := (by rw [hsx0]; rfl); simpa using h7
        simp only [Nat.zero_mul, Nat.zero_add] at v0' v1' v2' vf'
        have hx9 : Ext w w9 := ext_grow (ext_alloc (ext_trans HX.out (ext_trans hw3 hx4)) _) hg9 (fun j hj => (HOL.out j hj).1)
        have u0' := (World.cell?_of_block (a := ⟨wr.heap.size, 0, none⟩) (hg9.block wr.heap.size (by simp; omega) (fun e => by have := (HOL.out _ e.symm).2; omega))).trans (show _ = some (.slice ap p.length cp) by go_simp)
        have u1' := (World.cell?_of_block (a := ⟨wr.heap.size, 1, none⟩) (hg9.block wr.heap.size (by simp; omega) (fun e => by have := (HOL.out _ e.symm).2; omega))).trans (show _ = some (.int .i64 d) by go_simp)
        have u2' := (World.cell?_of_block (a := ⟨wr.heap.size, 2, none⟩) (hg9.block wr.heap.size (by simp; omega) (fun e => by have := (HOL.out _ e.symm).2; omega))).trans (show _ = some (.int .u8 s.toNat) by go_simp)
        have hng : ¬ g9 = wr.heap.size := by
          intro e
          rcases hat9 with h | h
          · have := (HOL.out g9 (h.symm.trans rfl)).2; omega
          · have h' : some g9 = some (w4.heap.size + 1) := by simpa [Value.ownBlock] using h
            injection h' with h'
            omega
        have hng' : ¬ wr.heap.size = g9 := fun e => hng e.symm
        have hsum : ¬ 9223372036854775807 < sx.size + eb.size := by omega
        have HX9 := Lib.hid hx9
        have HPT := Lib.hid (put_text hown9 (i := 0) (by simp) ex9 HEB.out (by omega))
        have HXE := Lib.hid hxe
        clear ex9 hg9 hown9 hat9 hpx hx9 hxe hsx0 hsxs
        refine wp_region_tail 11 fol (by kernel_rfl) (fun W hW => ?_)
        subst hW
        simp only [List.take_succ_cons, List.take_zero, List.drop_succ_cons, List.drop_zero]
        repeat (go_big_quiet_step (fail))
        refine wpQuiet_nil ?_
        go_wp2_with fail
        go_roundw
        case rel => exact ⟨k + 1, by omega, by go_num, Lib.hid (osl_ext gRn (osl_of_eq HPT.out (by rw [HS.out]; exact app_eq0 HXE.out)) (ext_drew (ext_refl _))), HRN, ext_drew (ext_set HX9.out (show w.heap.size ≤ g9 by omega) _)⟩
        case measure => simp [intOf]; omega
      · obtain ⟨n, hn⟩ : ∃ n, q.length = n + 1 := ⟨q.length - 1, by omega⟩
        obtain rfl : n5 = n + 1 := (osl_len HO.out).1.trans hn
        obtain ⟨g5, p5, d5, s5, ap5, cp5, e5, hb5, hs5, ex5, hsx5, ix5, hpx5, v0, v1, v2, vf⟩ := orun_at HO.out (i := n) (by omega)
        subst e5
        have hro := HR.out _ (List.mem_of_getElem? ex5)
        have hs560 : s5.size ≤ 60 := by simpa using hro.2.1
        have HJN := Lib.hid (fun (W : World) (hx : Ext wr W) => joins_any (rrn_of (hpx5.ext gStp hx) ix5 (rtx_s hsx5)) (HAT.out W hx) hro.1)
        have ex5' : q[q.length - 1]? = some ((p5, d5), s5.data.toList) := by rw [hn]; exact ex5
        have hg5 : ¬ g5 = wr.heap.size := by omega
        have hn3 : n ≤ 300 := by omega
        have hq300 : q.length ≤ 300 := by omega
        have hwn : wrap64 (n : Int) = (n : Int) := IntWalk.wrap64_in _ (by omega)
        have hwn1 : wrap64 ((n : Int) + 1) = (n : Int) + 1 := wrap_succ hn3
        have hnn : ¬ (n : Int) < 0 := Int.not_lt.2 (Int.natCast_nonneg n)
        have t0 : decide ((n : Int) < 0) = false := decide_eq_false hnn
        have t0b : decide (0 ≤ (n : Int)) = true := decide_eq_true (Int.natCast_nonneg n)
        have hg5' : ¬ wr.heap.size = g5 := by omega
        cases hjb : joinsB ((p5, d5), s5.data.toList) ((p, d), s) with
        | true =>
          rw [hjb] at HJN
          have HSJ := Lib.hid (HS.out.trans (runStep_join ex5' hjb))
          have hsum : ¬ 9223372036854775807 < s5.size + eb.size := by omega
          have HPT := Lib.hid (fun (W : World) (hx : Ext wr W) => put_text (osl_ext gRn HO.out hx) (i := n) (by omega) ex5 HEB.out hs560)
          have HN := Lib.hid hn
          clear ex5' ex5 hro hpx5 ix5 hsx5 hjb hq0 hn hql HS
          go_wp2_with fail
          refine wp_name (fun W2 eW2 => ?_)
          have e0 : W2.cell? ⟨wr.heap.size, 0, none⟩ = some (.slice ap p.length cp) := by rw [eW2]; go_simp
          have e1 : W2.cell? ⟨wr.heap.size, 1, none⟩ = some (.int .i64 d) := by rw [eW2]; go_simp
          have e2 : W2.cell? ⟨wr.heap.size, 2, none⟩ = some (.int .u8 s.toNat) := by rw [eW2]; go_simp
          have e3 : W2.cell? ⟨g5, n * 3, none⟩ = some (.slice ap5 p5.length cp5) := by rw [eW2]; go_simp
          have e4 : W2.cell? ⟨g5, n * 3 + 1, none⟩ = some (.int .i64 d5) := by rw [eW2]; go_simp
          have e5 : W2.cell? ⟨g5, n * 3 + 2, none⟩ = some (.string s5) := by rw [eW2]; go_simp
          have ef5 : W2.frozen? ⟨g5, n * 3 + 2, none⟩ = false := by rw [eW2]; go_simp
          have zW2_0 : wr.heap.size < W2.heap.size := by rw [eW2]; first | assumption | omega | (simp <;> omega)
          have zW2_1 : g5 < W2.heap.size := by rw [eW2]; first | assumption | omega | (simp <;> omega)
          have hw2 : Ext wr W2 := by rw [eW2]; exact (by repeat (first | (with_reducible exact ext_refl _) | (with_reducible assumption) | (with_reducible refine ext_drew ?_) | (with_reducible refine ext_drewN ?_ _) | (with_reducible refine ext_alloc ?_ _) | (with_reducible refine ext_set ?_ (by first | omega | (simp <;> omega)) _) | (with_reducible refine ext_trans ?_ (by with_reducible assumption))))
          clear eW2
          refine wp_region_later fol (by kernel_rfl) (fun hlater => ?_)
          repeat (go_big_quiet_step ((first
              | (go_at_call 97; (with_reducible exact later_of (HJN.out _ (ext_trans hw2 (Later.ext _))))))))
          refine wpQuiet_nil ?_
          rintro w3 ⟨⟨w3x, hx3⟩, rfl⟩
          clear hlater
          have fz0 := (hx3.cells wr.heap.size 0 (by omega)).trans e0
          have fz1 := (hx3.cells wr.heap.size 1 (by omega)).trans e1
          have fz2 := (hx3.cells wr.heap.size 2 (by omega)).trans e2
          have fy0 := (hx3.cells g5 (n * 3) (by omega)).trans e3
          have fy1 := (hx3.cells g5 (n * 3 + 1) (by omega)).trans e4
          have fy2 := (hx3.cells g5 (n * 3 + 2) (by omega)).trans e5
          have fyf := (hx3.frz g5 (n * 3 + 2) (by omega)).trans ef5
          have hz3 := hx3.size
          have hw3 : Ext wr w3 := ext_trans hw2 hx3
          have hb3 : wr.heap.size < w3.heap.size := by omega
          have hg3 : g5 < w3.heap.size := by omega
          go_wp2_with fail
          refine wp_region_tail 11 fol (by kernel_rfl) (fun W hW => ?_)
          subst hW
          simp only [List.take_succ_cons, List.take_zero, List.drop_succ_cons, List.drop_zero]
          repeat (go_big_quiet_step (fail))
          refine wpQuiet_nil ?_
          go_wp2_with fail
          go_roundw
          case rel => exact ⟨k + 1, by omega, by go_num, Lib.hid (osl_ext gRn (osl_of_eq (HPT.out _ hw3) (by rw [HSJ.out, HN.out]; rfl)) (ext_drew (ext_refl _))), HRN, ext_drew (ext_set (ext_trans HX.out hw3) (by simp <;> omega) _)⟩
          case measure => simp [intOf]; omega
        | false =>
          rw [hjb] at HJN
          have HSJ := Lib.hid (HS.out.trans (runStep_new ex5' hjb))
          have HN := Lib.hid hn
          clear ex5' ex5 hro hpx5 ix5 hsx5 hjb hq0 hql HS
          go_wp2_with fail
          refine wp_name (fun W2 eW2 => ?_)
          have e0 : W2.cell? ⟨wr.heap.size, 0, none⟩ = some (.slice ap p.length cp) := by rw [eW2]; go_simp
          have e1 : W2.cell? ⟨wr.heap.size, 1, none⟩ = some (.int .i64 d) := by rw [eW2]; go_simp
          have e2 : W2.cell? ⟨wr.heap.size, 2, none⟩ = some (.int .u8 s.toNat) := by rw [eW2]; go_simp
          have e3 : W2.cell? ⟨g5, n * 3, none⟩ = some (.slice ap5 p5.length cp5) := by rw [eW2]; go_simp
          have e4 : W2.cell? ⟨g5, n * 3 + 1, none⟩ = some (.int .i64 d5) := by rw [eW2]; go_simp
          have e5 : W2.cell? ⟨g5, n * 3 + 2, none⟩ = some (.string s5) := by rw [eW2]; go_simp
          have ef5 : W2.frozen? ⟨g5, n * 3 + 2, none⟩ = false := by rw [eW2]; go_simp
          have zW2_0 : wr.heap.size < W2.heap.size := by rw [eW2]; first | assumption | omega | (simp <;> omega)
          have zW2_1 : g5 < W2.heap.size := by rw [eW2]; first | assumption | omega | (simp <;> omega)
          have hw2 : Ext wr W2 := by rw [eW2]; exact (by repeat (first | (with_reducible exact ext_refl _) | (with_reducible assumption) | (with_reducible refine ext_drew ?_) | (with_reducible refine ext_drewN ?_ _) | (with_reducible refine ext_alloc ?_ _) | (with_reducible refine ext_set ?_ (by first | omega | (simp <;> omega)) _) | (with_reducible refine ext_trans ?_ (by with_reducible assumption))))
          clear eW2
          refine wp_region_later fol (by kernel_rfl) (fun hlater => ?_)
          repeat (go_big_quiet_step ((first
              | (go_at_call 97; (with_reducible exact later_of (HJN.out _ (ext_trans hw2 (Later.ext _))))))))
          refine wpQuiet_nil ?_
          rintro w3 ⟨⟨w3x, hx3⟩, rfl⟩
          clear hlater
          have fz0 := (hx3.cells wr.heap.size 0 (by omega)).trans e0
          have fz1 := (hx3.cells wr.heap.size 1 (by omega)).trans e1
          have fz2 := (hx3.cells wr.heap.size 2 (by omega)).trans e2
          have fy0 := (hx3.cells g5 (n * 3) (by omega)).trans e3
          have fy1 := (hx3.cells g5 (n * 3 + 1) (by omega)).trans e4
          have fy2 := (hx3.cells g5 (n * 3 + 2) (by omega)).trans e5
          have fyf := (hx3.frz g5 (n * 3 + 2) (by omega)).trans ef5
          have hz3 := hx3.size
          have hw3 : Ext wr w3 := ext_trans hw2 hx3
          have hb3 : wr.heap.size < w3.heap.size := by omega
          have hg3 : g5 < w3.heap.size := by omega
          go_wp2_with (first
            | (go_at_call 57; go_must ((with_reducible refine (HOW.out _ (ext_trans hw3 (by repeat (first | (with_reducible exact ext_refl _) | (with_reducible assumption) | (with_reducible refine ext_drew ?_) | (with_reducible refine ext_drewN ?_ _) | (with_reducible refine ext_alloc ?_ _) | (with_reducible refine ext_set ?_ (by first | omega | (simp <;> omega)) _) | (with_reducible refine ext_trans ?_ (by with_reducible assumption)))))).mono ?_); rintro e w4 ⟨cs4, rfl, hm4, hx4⟩; have HM4 := Lib.hid (omk_mk hm4); obtain ⟨v4, rfl, hv4, _⟩ := hm4; obtain ⟨a4, n4, c4, rfl⟩ := osl_slice hv4; have hz4 := hx4.size; have m0 := (hx4.cells (wr.heap.size) (0) (by first | omega | (simp <;> omega))).trans (show _ = some (.slice ap p.length cp) by first | assumption | go_simp); have m1 := (hx4.cells (wr.heap.size) (1) (by first | omega | (simp <;> omega))).trans (show _ = some (.int .i64 d) by first | assumption | go_simp); have m2 := (hx4.cells (wr.heap.size) (2) (by first | omega | (simp <;> omega))).trans (show _ = some (.int .u8 s.toNat) by first | assumption | go_simp); have hb4 : wr.heap.size < w4.heap.size := (by omega); clear hv4))
            | (at_builtin; go_must (refine wpList_app1 gRn rfl (.tmp 27) (.tmp 32) 70 rfl w.heap.size 67 i0 _ 3 48 Try.underlying70 HJ.out HZ0.out HZ1.out HZ2.out rfl (by omega) (F := fun j => w.heap.size ≤ j) (G := fun j => w3.heap.size ≤ j) (.slice (some ⟨g5, 0, none⟩) (n + 1) c5) q rfl (osl_ext gRn HO.out (ext_trans hw3 (by repeat (first | (with_reducible exact ext_refl _) | (with_reducible assumption) | (with_reducible refine ext_drew ?_) | (with_reducible refine ext_drewN ?_ _) | (with_reducible refine ext_alloc ?_ _) | (with_reducible refine ext_set ?_ (by first | omega | (simp <;> omega)) _) | (with_reducible refine ext_trans ?_ (by with_reducible assumption)))))) w4.heap.size 0 1 [.slice a4 n4 c4, .int .i64 d, .string ⟨#[]⟩] ((p, d), []) rfl rfl (rangeAt3 (by go_simp) (by go_simp) (by go_simp)) (one_rn _ w4 _ ((p, d), []) (rrn_of ((rmk_path HM4.out)) HIC.out ⟨rfl, by simp⟩)) (rrn_of ((rmk_path HM4.out).ext gStp (ext_alloc (ext_refl _) _)) HIC.out ⟨rfl, by simp⟩) (fun j hj _ => ⟨(show w.heap.size ≤ j by omega), fun e => by have := (HOL.out j e.symm).2; omega⟩) (len63 hq300) (lenby hq300) (by simp; omega) ?_; intro v9 w9 hown9 hg9 hat9; obtain ⟨a9, n9, c9, rfl⟩ := osl_slice hown9)))
          obtain ⟨g9, px, dx, sx, apx, cpx, ea9, hb9, hs9, ex9, hsx, ix9, hpx, v0', v1', v2', vf'⟩ := orun_at hown9 (i := n + 1) (by rw [List.length_append, HN.out]; exact Nat.lt_succ_self _)
          subst ea9
          obtain rfl : n9 = n + 1 + 1 := by have := (osl_len hown9).1; simpa [HN.out] using this
          have hxe : ((p, d), []) = ((px, dx), sx.data.toList) := by have h8 := ex9; rw [← HN.out] at h8; simpa using h8
          have hsx0 : sx.data.toList = [] := tx_nil hxe
          have hsxs : sx.size = 0 := by have h7 : sx.data.toList.length = 0 := (by rw [hsx0]; rfl); simpa using h7
          have hx9 : Ext w w9 := ext_grow (ext_alloc (ext_trans HX.out (ext_trans hw3 hx4)) _) hg9 (fun j hj => (HOL.out j hj).1)
          have u0' := (World.cell?_of_block (a := ⟨wr.heap.size, 0, none⟩) (hg9.block wr.heap.size (by simp; omega) (fun e => by have := (HOL.out _ e.symm).2; omega))).trans (show _ = some (.slice ap p.length cp) by go_simp)
          have u1' := (World.cell?_of_block (a := ⟨wr.heap.size, 1, none⟩) (hg9.block wr.heap.size (by simp; omega) (fun e => by have := (HOL.out _ e.symm).2; omega))).trans (show _ = some (.int .i64 d) by go_simp)
          have u2' := (World.cell?_of_block (a := ⟨wr.heap.size, 2, none⟩) (hg9.block wr.heap.size (by simp; omega) (fun e => by have := (HOL.out _ e.symm).2; omega))).trans (show _ = some (.int .u8 s.toNat) by go_simp)
          have hng : ¬ g9 = wr.heap.size := by
            intro e
            rcases hat9 with h | h
            · have := (HOL.out g9 (h.symm.trans rfl)).2; omega
            · have h' : some g9 = some (w4.heap.size + 1) := by simpa [Value.ownBlock] using h
              injection h' with h'
              omega
          have hng' : ¬ wr.heap.size = g9 := fun e => hng e.symm
          have hsum : ¬ 9223372036854775807 < sx.size + eb.size := by omega
          have HX9 := Lib.hid hx9
          have HPT := Lib.hid (put_text hown9 (i := n + 1) (by rw [List.length_append, HN.out]; exact Nat.lt_succ_self _) ex9 HEB.out (by omega))
          have HXE := Lib.hid hxe
          clear ex9 hg9 hown9 hat9 hpx hx9 hxe hsx0 hsxs
          obtain ⟨n', hn'⟩ : ∃ n' : Nat, n' = n + 1 := ⟨_, rfl⟩
          have hwq : wrap64 ((n : Int) + 1) = (n' : Int) := by rw [hn']; exact wrap_succ hn3
          have HNQ := Lib.hid (show n' = q.length from hn'.trans HN.out.symm)
          rw [hwq]
          simp only [← hn'] at v0' v1' v2' vf' HPT ⊢
          have t0' : decide ((n' : Int) < 0) = false := decide_eq_false (Int.not_lt.2 (Int.natCast_nonneg _))
          have t0c : decide (0 ≤ (n' : Int)) = true := decide_eq_true (Int.natCast_nonneg _)
          have nn0 : (0 : Int) ≤ (n' : Int) := Int.natCast_nonneg _
          have nn1 : (n' : Int) < (n' : Int) + 1 := Int.lt_succ _
          clear hn' hwq hwn hwn1 hnn t0 t0b
          refine wp_region_tail 11 fol (by kernel_rfl) (fun W hW => ?_)
          subst hW
          simp only [List.take_succ_cons, List.take_zero, List.drop_succ_cons, List.drop_zero]
          repeat (go_big_quiet_step (fail))
          refine wpQuiet_nil ?_
          go_wp2_with fail
          go_roundw
          case rel => exact ⟨k + 1, by omega, by go_num, Lib.hid (osl_ext gRn (osl_of_eq HPT.out (by rw [HSJ.out, HNQ.out]; exact app_eq HXE.out)) (ext_drew (ext_refl _))), HRN, ext_drew (ext_set HX9.out (show w.heap.size ≤ g9 by omega) _)⟩
          case measure => simp [intOf]; omega
    · have hkl : k = l.length := by omega
      subst hkl
      have HF := Lib.hid (show OSl RRn 3 67 w.heap.size (fun j => w.heap.size ≤ j) wr (.slice a5 n5 c5) (runsA l) by have := HO.out; rwa [List.take_of_length_le (Nat.le_refl _)] at this)
      go_wp2
      go_ret
      exact ⟨_, rfl, osl_rsl gRn HF.out (fun j hj _ => hj) (fun j hj => hj), HX.out⟩
end Go.Proofs.Ythkhkbjkbpgaoaa
