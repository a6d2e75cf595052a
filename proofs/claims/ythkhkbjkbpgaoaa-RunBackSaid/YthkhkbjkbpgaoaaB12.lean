/- RunBack: atoms of runs are the atoms that they were, and no two runs side by side could be one: the walk. -/
import Derived.Test.YthkhkbjkbpgaoaaB10
import Derived.Test.YthkhkbjkbpgaoaaPR
set_option linter.unusedVariables false
set_option linter.unusedSimpArgs false
namespace Go.Proofs.Ythkhkbjkbpgaoaa
open Go Go.RowKit Go.BigFrame Cp

theorem take_flat_len (q : List Rn) (k : Nat) : ((q.take k).flatMap atomsR).length ≤ (q.flatMap atomsR).length := by
  have h : q.flatMap atomsR = (q.take k).flatMap atomsR ++ (q.drop k).flatMap atomsR := by rw [← List.flatMap_append, List.take_append_drop]
  rw [h, List.length_append]
  exact Nat.le_add_right _ _
theorem flat_take {q : List Rn} {k : Nat} {r : Rn} (h : q[k]? = some r) : (q.take (k + 1)).flatMap atomsR = (q.take k).flatMap atomsR ++ atomsR r := by
  obtain ⟨h1, h2⟩ := List.getElem?_eq_some_iff.1 h
  rw [List.take_succ_eq_append_getElem h1, h2, List.flatMap_append]; simp
theorem wfact {T G : Prop} (h : T) (k : T → G) : G := k h
theorem runsA_le (l : List At) : (runsA l).length ≤ l.length := by
  have := runsA_len l l.length
  rwa [List.take_length] at this
theorem len360 {a b : Nat} (h : a ≤ 300) (k : b ≤ 60) : a + b ≤ maxLen := Nat.le_trans (by omega : a + b ≤ 360) (by unfold maxLen; decide)
theorem byt360 {a b : Nat} (h : a ≤ 300) (k : b ≤ 60) : (a + b) * 40 ≤ 140737488355328 := by omega
theorem apart_next {q : List Rn} {m : Nat} {r r' : Rn} (h : Apart q) (h1 : q[m]? = some r) (h2 : q[m + 1]? = some r') (hl : r.2.length < 60) (he : (nextM r.1 r.2.length).2 = 0) : ¬ ordM (nextM r.1 r.2.length).1 r'.1 = 0 := by
  rw [nextM_val he]
  exact fun h9 => h m r r' h1 h2 ⟨hl, h9⟩
set_option maxRecDepth 100000 in
set_option maxHeartbeats 4000000 in
theorem runBack_any {G : Nat → Prop} {w : World} {v : Value} {l : List At} (h : RSl RAt 3 G w v l) :
    Calls Try.prog 12 #[v] w fun e w' => e = .returned (.bool true) ∧ Ext w w' := by
  have HRS := Lib.hid (fun (W : World) (hx : Ext w W) => runRuns_any (h.ext gAt hx))
  have HL := Lib.hid (fun (W : World) (hx : Ext w W) => h.ext gAt hx)
  obtain ⟨a0, n0, c0, rfl⟩ := h.slice
  clear h
  obtain ⟨i0, hi0, hz0, hz1', hz2⟩ := info_parts info_atom
  have HJ := Lib.hid hi0
  have HZ0 := Lib.hid hz0
  have HZ1 := Lib.hid hz1'
  have HZ2 := Lib.hid hz2
  clear hi0 hz0 hz1' hz2
  by_cases h1 : checkA l = 0
  · rw [if_pos h1, h1] at HRS
    have HIN := Lib.hid (runs_back h1)
    have hl3 : l.length ≤ 300 := (checkA_ok h1).1
    have hq3 : (runsA l).length ≤ 300 := Nat.le_trans (runsA_le l) hl3
    generalize runsA l = q at *
    clear h1
    go_enter Try.func12, Try.ntmps12
    go_wp2_with (first
      | (go_at_call 40; go_must ((with_reducible refine (HRS.out _ (by repeat (first | (with_reducible exact ext_refl _) | (with_reducible assumption) | (with_reducible refine ext_drew ?_) | (with_reducible refine ext_drewN ?_ _) | (with_reducible refine ext_alloc ?_ _) | (with_reducible refine ext_set ?_ (by first | omega | (simp <;> omega)) _) | (with_reducible refine ext_trans ?_ (by with_reducible assumption))))).mono ?_); rintro e w2 ⟨v2, rfl, hv2, hx2⟩; obtain ⟨a2, n2, c2, rfl⟩ := hv2.slice; obtain rfl : n2 = q.length := hv2.len.1; have HV2 := Lib.hid hv2; clear hv2; have hz2 := hx2.size; (try simp at hz2)))
      | (go_at_call 45; go_must ((with_reducible refine (runBegun_any _).mono ?_); rintro e w3 ⟨rfl, hx3⟩; have hz3 := hx3.size; (try simp at hz3))))
    refine wp_name (fun wb ewb => ?_)
    have hwb : Ext w wb := by rw [ewb]; exact (by repeat (first | (with_reducible exact ext_refl _) | (with_reducible assumption) | (with_reducible refine ext_drew ?_) | (with_reducible refine ext_drewN ?_ _) | (with_reducible refine ext_alloc ?_ _) | (with_reducible refine ext_set ?_ (by first | omega | (simp <;> omega)) _) | (with_reducible refine ext_trans ?_ (by with_reducible assumption))))
    have hw2b : Ext w2 wb := by rw [ewb]; exact (by repeat (first | (with_reducible exact ext_refl _) | (with_reducible assumption) | (with_reducible refine ext_drew ?_) | (with_reducible refine ext_drewN ?_ _) | (with_reducible refine ext_alloc ?_ _) | (with_reducible refine ext_set ?_ (by first | omega | (simp <;> omega)) _) | (with_reducible refine ext_trans ?_ (by with_reducible assumption))))
    have HQ := Lib.hid (fun (W : World) (hx : Ext wb W) => HV2.out.ext gRn (ext_trans hw2b hx))
    clear ewb hw2b hx2 hx3
    go_loopw [5, 6] (fun ov iv wr => ∃ k : Nat, k ≤ q.length ∧ iv = .int .i64 k ∧ Hid (OSl RAt 3 52 wb.heap.size (fun j => wb.heap.size ≤ j) wr ov ((q.take k).flatMap atomsR)) ∧ Ext wb wr) (fun _ iv _ => q.length - (intOf iv).toNat)
    case atStart => exact ⟨0, Nat.zero_le _, rfl, Lib.hid osl_nil, ext_refl _⟩
    case round =>
      obtain ⟨k, hk, rfl, HO, hx⟩ := hrel
      have hzr := hx.size
      have HX := Lib.hid hx
      clear hx
      obtain ⟨a5, n5, c5, rfl⟩ := osl_slice HO.out
      by_cases hlt : k < q.length
      · obtain ⟨b, o, p, d, s, ap, cp, rfl, hb, ek, hs, ick, hp, y0, y1, y2⟩ := run_at (HQ.out wr HX.out) hlt
        have hck := HIN.out.2.1 _ (List.mem_of_getElem? ek)
        have HAT := Lib.hid (fun (W : World) (hx : Ext wr W) => (show Calls Try.prog 39 _ W (IsAtomsE (atomsR ((p, d), s.data.toList)) 0 W) by have h1 := runAtoms_any (rrn_of (hp.ext gStp hx) ick (rtx_s hs)); rw [hck, if_pos rfl] at h1; exact h1))
        have hal : (atomsR ((p, d), s.data.toList)).length ≤ 60 := by rw [atomsR_len]; exact (checkR_ok.1 hck).2.2.1
        have hfl : ((q.take k).flatMap atomsR).length ≤ 300 := Nat.le_trans (take_flat_len q k) (by rw [HIN.out.1]; exact hl3)
        have HFL := Lib.hid (flat_take ek)
        have HOL := Lib.hid (osl_lt HO.out)
        have HPP := Lib.hid (fun (W : World) (hx : Ext wr W) => rmk_of' (hp.ext gStp hx) ick)
        generalize (q.take k).flatMap atomsR = fl at *
        generalize atomsR ((p, d), s.data.toList) = al at *
        by_cases hk0 : k = 0
        · subst hk0
          have t0 : decide (0 < ((0 : Nat) : Int)) = false := rfl
          simp only [Nat.zero_mul, Nat.add_zero] at y0 y1 y2
          clear hck ek hp ick
          go_wp2_with (first
            | (go_at_call 39; go_must ((with_reducible refine (HAT.out _ (by repeat (first | (with_reducible exact ext_refl _) | (with_reducible assumption) | (with_reducible refine ext_drew ?_) | (with_reducible refine ext_drewN ?_ _) | (with_reducible refine ext_alloc ?_ _) | (with_reducible refine ext_set ?_ (by first | omega | (simp <;> omega)) _) | (with_reducible refine ext_trans ?_ (by with_reducible assumption))))).mono ?_); rintro e w1 ⟨v1, rfl, hv1, hx1⟩; obtain ⟨a1, n1, c1, rfl⟩ := hv1.slice; have HV1 := Lib.hid hv1; clear hv1; have hz1 := hx1.size; (try simp at hz1)))
            | (at_builtin; go_must (refine wpList_appAll gAt rfl (.tmp 80) (.tmp 81) 37 rfl wb.heap.size 52 i0 _ 3 40 Try.underlying37 HJ.out HZ0.out HZ1.out HZ2.out rfl (by omega) (F := fun j => wb.heap.size ≤ j) (G := fun j => wr.heap.size ≤ j) (.slice a5 n5 c5) fl rfl (osl_ext gAt HO.out (by repeat (first | (with_reducible exact ext_refl _) | (with_reducible assumption) | (with_reducible refine ext_drew ?_) | (with_reducible refine ext_drewN ?_ _) | (with_reducible refine ext_alloc ?_ _) | (with_reducible refine ext_set ?_ (by first | omega | (simp <;> omega)) _) | (with_reducible refine ext_trans ?_ (by with_reducible assumption))))) (.slice a1 n1 c1) al rfl (HV1.out.ext gAt (by repeat (first | (with_reducible exact ext_refl _) | (with_reducible assumption) | (with_reducible refine ext_drew ?_) | (with_reducible refine ext_drewN ?_ _) | (with_reducible refine ext_alloc ?_ _) | (with_reducible refine ext_set ?_ (by first | omega | (simp <;> omega)) _) | (with_reducible refine ext_trans ?_ (by with_reducible assumption))))) one_at (fun j hj _ => ⟨(show wb.heap.size ≤ j by omega), fun e => by have := HOL.out j e.symm; omega⟩) (len360 hfl hal) (byt360 hfl hal) (by first | omega | (simp <;> omega)) ?_; intro v9 w9 hown9 hg9 hat9; obtain ⟨a9, n9, c9, rfl⟩ := osl_slice hown9; have hx9 : Ext wb w9 := ext_grow (ext_trans HX.out (by repeat (first | (with_reducible exact ext_refl _) | (with_reducible assumption) | (with_reducible refine ext_drew ?_) | (with_reducible refine ext_drewN ?_ _) | (with_reducible refine ext_alloc ?_ _) | (with_reducible refine ext_set ?_ (by first | omega | (simp <;> omega)) _) | (with_reducible refine ext_trans ?_ (by with_reducible assumption))))) hg9 (fun j hj => (HOL.out j hj).1))))
          go_roundw
          case rel => exact ⟨0 + 1, by omega, by go_num, Lib.hid (by rw [HFL.out]; exact hown9), hx9⟩
          case measure => simp [intOf]; omega
        · obtain ⟨m, rfl⟩ : ∃ m, k = m + 1 := ⟨k - 1, by omega⟩
          obtain ⟨b2, o2, p2, d2, s2, ap2, cp2, eb2, hb2, em, hs2, icm, hp2, x0, x1, x2⟩ := run_at (HQ.out wr HX.out) (show m < q.length by omega)
          obtain ⟨rfl, rfl⟩ : b = b2 ∧ o = o2 := by simp at eb2; exact eb2
          have hap := apart_next HIN.out.2.2 em ek
          have HNX := Lib.hid (fun (W : World) (hx : Ext wr W) => next_any (k := (s2.size : Int)) (rmk_of' (hp2.ext gStp hx) icm))
          have hsl2 : s2.data.toList.length = s2.size := by simp
          have hmb : m ≤ 300 := by omega
          have t0 : decide (0 < ((m + 1 : Nat) : Int)) = true := decide_eq_true (Int.natCast_pos.2 (Nat.succ_pos _))
          have t0b : decide (0 < (m : Int) + 1) = true := decide_eq_true (Int.lt_add_one_iff.2 (Int.natCast_nonneg m))
          have mm0 : (0 : Int) ≤ (m : Int) := Int.natCast_nonneg m
          have mm1 : (m : Int) < (q.length : Int) := Int.ofNat_lt.2 (Nat.lt_of_succ_lt hlt)
          have mm2 : (0 : Int) ≤ (m : Int) + 1 := Int.le_add_one mm0
          have mm3 : (m : Int) + 1 < (q.length : Int) := by exact_mod_cast hlt
          have iw3 := i64w hmb
          have iw4 := i64w1 hmb
          by_cases h60 : s2.size < 60
          · have t1 : decide ((s2.size : Int) < 60) = true := decide_eq_true (Int.ofNat_lt.2 h60)
            have t1b : decide (s2.size < 60) = true := decide_eq_true h60
            have hap := hap (by simpa using h60)
            simp only [hsl2] at hap
            generalize nextM (p2, d2) (s2.size : Int) = x at *
            obtain ⟨⟨nl, nc⟩, er⟩ := x
            simp only at hap HNX
            have HAP := Lib.hid hap
            clear hck ek hp ick em icm hp2 eb2 hap hsl2 hs2
            go_wp2_with (first
              | (go_at_call 39; go_must ((with_reducible refine (HAT.out _ (by repeat (first | (with_reducible exact ext_refl _) | (with_reducible assumption) | (with_reducible refine ext_drew ?_) | (with_reducible refine ext_drewN ?_ _) | (with_reducible refine ext_alloc ?_ _) | (with_reducible refine ext_set ?_ (by first | omega | (simp <;> omega)) _) | (with_reducible refine ext_trans ?_ (by with_reducible assumption))))).mono ?_); rintro e w1 ⟨v1, rfl, hv1, hx1⟩; obtain ⟨a1, n1, c1, rfl⟩ := hv1.slice; have HV1 := Lib.hid hv1; clear hv1; have hz1 := hx1.size; (try simp at hz1); have hb1 : b < w1.heap.size := (by omega); have hb1n : ¬ b = w1.heap.size := (by omega); have hb1m : ¬ w1.heap.size = b := (by omega); have q0 := (hx1.cells (b) (o + (m + 1) * 3) (by first | omega | (simp <;> omega))).trans (show _ = some (.slice ap p.length cp) by first | assumption | go_simp); have q1 := (hx1.cells (b) (o + (m + 1) * 3 + 1) (by first | omega | (simp <;> omega))).trans (show _ = some (.int .i64 d) by first | assumption | go_simp); have q2 := (hx1.cells (b) (o + m * 3) (by first | omega | (simp <;> omega))).trans (show _ = some (.slice ap2 p2.length cp2) by first | assumption | go_simp); have q3 := (hx1.cells (b) (o + m * 3 + 1) (by first | omega | (simp <;> omega))).trans (show _ = some (.int .i64 d2) by first | assumption | go_simp); have q4 := (hx1.cells (b) (o + m * 3 + 2) (by first | omega | (simp <;> omega))).trans (show _ = some (.string s2) by first | assumption | go_simp))))
            go_region_held3 (fun W => W.cell? ⟨b, o + m * 3, none⟩ = some (.slice ap2 p2.length cp2) ∧ W.cell? ⟨b, o + m * 3 + 1, none⟩ = some (.int .i64 d2) ∧ W.cell? ⟨b, o + m * 3 + 2, none⟩ = some (.string s2))
              (first | go_keep | (refine ⟨?_, ?_, ?_⟩ <;> assumption))
              (first
                | (go_at_call 30; go_must ((with_reducible refine (HNX.out _ (by repeat (first | (with_reducible exact ext_refl _) | (with_reducible assumption) | (with_reducible refine ext_drew ?_) | (with_reducible refine ext_drewN ?_ _) | (with_reducible refine ext_alloc ?_ _) | (with_reducible refine ext_set ?_ (by first | omega | (simp <;> omega)) _) | (with_reducible refine ext_trans ?_ (by with_reducible assumption))))).mono ?_); rintro e w3 ⟨cs3, rfl, hm3, hx3⟩; obtain ⟨v3, rfl, hv3, hi3⟩ := hm3; obtain ⟨a3, n3, c3, rfl⟩ := hv3.slice; have HV3 := Lib.hid hv3; have HI3 := Lib.hid hi3; clear hv3 hi3; have hz3 := hx3.size; (try simp at hz3); have hzr3 : wr.heap.size ≤ w3.heap.size := (by omega); have hb3 : b < w3.heap.size := (by omega); have r0 := (hx3.cells (b) (o + (m + 1) * 3) (by first | omega | (simp <;> omega))).trans (show _ = some (.slice ap p.length cp) by first | assumption | go_simp); have r1 := (hx3.cells (b) (o + (m + 1) * 3 + 1) (by first | omega | (simp <;> omega))).trans (show _ = some (.int .i64 d) by first | assumption | go_simp); have r2 := (hx3.cells (b) (o + m * 3) (by first | omega | (simp <;> omega))).trans (show _ = some (.slice ap2 p2.length cp2) by first | assumption | go_simp); have r3 := (hx3.cells (b) (o + m * 3 + 1) (by first | omega | (simp <;> omega))).trans (show _ = some (.int .i64 d2) by first | assumption | go_simp); have r4 := (hx3.cells (b) (o + m * 3 + 2) (by first | omega | (simp <;> omega))).trans (show _ = some (.string s2) by first | assumption | go_simp); (try (refine wfact ((hx3.cells w1.heap.size 0 ?_).trans (?_ : _ = some (.slice none 0 0))) (fun cz0 => ?_); (· simp); (· go_simp))); (try (refine wfact ((hx3.cells w1.heap.size 1 ?_).trans (?_ : _ = some (.int .i64 0))) (fun cz1 => ?_); (· simp); (· go_simp))); (try (refine wfact ((hx3.frz w1.heap.size 0 ?_).trans (?_ : _ = false)) (fun cf0 => ?_); (· simp); (· go_simp))); (try (refine wfact ((hx3.frz w1.heap.size 1 ?_).trans (?_ : _ = false)) (fun cf1 => ?_); (· simp); (· go_simp))); (try (have h13 : w1.heap.size < w3.heap.size := (by omega))))))
            all_goals go_wp2_with fail
            · clear iw3 iw4
              by_cases he : er = 0
              · subst he
                have t9 : (ordM (nl, nc) (p, d) == 0) = false := by rw [beq_eq_false_iff_ne]; exact HAP.out rfl
                refine wp_name (fun W4 eW4 => ?_)
                have g0 : W4.cell? ⟨w3.heap.size, 0, none⟩ = some (.slice a3 n3 c3) := by rw [eW4]; go_simp
                have g1 : W4.cell? ⟨w3.heap.size, 1, none⟩ = some (.int .i64 nc) := by rw [eW4]; go_simp
                have g2 : W4.cell? ⟨b, o + (m + 1) * 3, none⟩ = some (.slice ap p.length cp) := by rw [eW4]; go_simp
                have g3 : W4.cell? ⟨b, o + (m + 1) * 3 + 1, none⟩ = some (.int .i64 d) := by rw [eW4]; go_simp
                have zW4_0 : b < W4.heap.size := by rw [eW4]; first | assumption | omega | (simp <;> omega)
                have zW4_1 : w3.heap.size < W4.heap.size := by rw [eW4]; first | assumption | omega | (simp <;> omega)
                have hw4 : Ext w1 W4 := by rw [eW4]; exact (by repeat (first | (with_reducible exact ext_refl _) | (with_reducible assumption) | (with_reducible refine ext_drew ?_) | (with_reducible refine ext_drewN ?_ _) | (with_reducible refine ext_alloc ?_ _) | (with_reducible refine ext_set ?_ (by first | omega | (simp <;> omega)) _) | (with_reducible refine ext_trans ?_ (by with_reducible assumption))))
                have HV4 : RSl RStp 2 (fun _ => True) W4 (.slice a3 n3 c3) nl := by rw [eW4]; exact RSl.more gStp (fun _ _ _ => trivial) (RSl.keep gStp (by repeat (first | (with_reducible exact keeps_refl) | (with_reducible refine keeps_drew ?_) | (with_reducible refine keeps_alloc ?_ _) | (with_reducible refine keeps_set ?_ (by first | omega | (simp <;> omega)) _))) HV3.out)
                have HV4 := Lib.hid HV4
                clear eW4
                have hwr4 : Ext wr W4 := ext_trans (by repeat (first | (with_reducible exact ext_refl _) | (with_reducible assumption) | (with_reducible refine ext_drew ?_) | (with_reducible refine ext_drewN ?_ _) | (with_reducible refine ext_alloc ?_ _) | (with_reducible refine ext_set ?_ (by first | omega | (simp <;> omega)) _) | (with_reducible refine ext_trans ?_ (by with_reducible assumption)))) hw4
                have HW4 := Lib.hid hwr4
                have HW14 := Lib.hid hw4
                have HOR := Lib.hid (fun (W : World) (hx : Ext W4 W) => order_any (rmk_of' (HV4.out.ext gStp hx) HI3.out) (HPP.out _ (ext_trans HW4.out hx)))
                generalize ordM (nl, nc) (p, d) = od at *
                refine wp_region_later fol (by kernel_rfl) (fun hlater => ?_)
                repeat (go_big_quiet_step ((first
                    | (go_at_call 34; (with_reducible exact later_of (HOR.out _ (Later.ext _)))))))
                refine wpQuiet_nil ?_
                rintro w5 ⟨⟨w5x, hx5⟩, rfl⟩
                clear hlater
                have hw5r : Ext wr w5 := ext_trans HW4.out hx5
                have hw51 : Ext w1 w5 := ext_trans HW14.out hx5
                have hz5 := hw5r.size
                clear hx1 hx3 hw4 hwr4 hx5
                go_wp2_with (first
                  | (at_builtin; go_must (refine wpList_appAll gAt rfl (.tmp 80) (.tmp 81) 37 rfl wb.heap.size 52 i0 _ 3 40 Try.underlying37 HJ.out HZ0.out HZ1.out HZ2.out rfl (by omega) (F := fun j => wb.heap.size ≤ j) (G := fun j => wr.heap.size ≤ j) (.slice a5 n5 c5) fl rfl (osl_ext gAt HO.out (by repeat (first | (with_reducible exact ext_refl _) | (with_reducible assumption) | (with_reducible refine ext_drew ?_) | (with_reducible refine ext_drewN ?_ _) | (with_reducible refine ext_alloc ?_ _) | (with_reducible refine ext_set ?_ (by first | omega | (simp <;> omega)) _) | (with_reducible refine ext_trans ?_ (by with_reducible assumption))))) (.slice a1 n1 c1) al rfl (HV1.out.ext gAt (by repeat (first | (with_reducible exact ext_refl _) | (with_reducible assumption) | (with_reducible refine ext_drew ?_) | (with_reducible refine ext_drewN ?_ _) | (with_reducible refine ext_alloc ?_ _) | (with_reducible refine ext_set ?_ (by first | omega | (simp <;> omega)) _) | (with_reducible refine ext_trans ?_ (by with_reducible assumption))))) one_at (fun j hj _ => ⟨(show wb.heap.size ≤ j by omega), fun e => by have := HOL.out j e.symm; omega⟩) (len360 hfl hal) (byt360 hfl hal) (by first | omega | (simp <;> omega)) ?_; intro v9 w9 hown9 hg9 hat9; obtain ⟨a9, n9, c9, rfl⟩ := osl_slice hown9; have hx9 : Ext wb w9 := ext_grow (ext_trans HX.out (by repeat (first | (with_reducible exact ext_refl _) | (with_reducible assumption) | (with_reducible refine ext_drew ?_) | (with_reducible refine ext_drewN ?_ _) | (with_reducible refine ext_alloc ?_ _) | (with_reducible refine ext_set ?_ (by first | omega | (simp <;> omega)) _) | (with_reducible refine ext_trans ?_ (by with_reducible assumption))))) hg9 (fun j hj => (HOL.out j hj).1))))
                go_roundw
                case rel => (try rw [wrap_two hmb]); exact ⟨m + 1 + 1, Nat.succ_le_of_lt hlt, rfl, Lib.hid (by rw [HFL.out]; exact hown9), hx9⟩
                case measure => (try rw [wrap_two hmb]); exact meas_two hlt
              · have t8 : (er == 0) = false := by rw [beq_eq_false_iff_ne]; exact he
                refine wp_name (fun W4 eW4 => ?_)
                have zW4_0 : b < W4.heap.size := by rw [eW4]; first | assumption | omega | (simp <;> omega)
                have hw4 : Ext w1 W4 := by rw [eW4]; exact (by repeat (first | (with_reducible exact ext_refl _) | (with_reducible assumption) | (with_reducible refine ext_drew ?_) | (with_reducible refine ext_drewN ?_ _) | (with_reducible refine ext_alloc ?_ _) | (with_reducible refine ext_set ?_ (by first | omega | (simp <;> omega)) _) | (with_reducible refine ext_trans ?_ (by with_reducible assumption))))
                clear eW4
                have hwr4 : Ext wr W4 := ext_trans (by repeat (first | (with_reducible exact ext_refl _) | (with_reducible assumption) | (with_reducible refine ext_drew ?_) | (with_reducible refine ext_drewN ?_ _) | (with_reducible refine ext_alloc ?_ _) | (with_reducible refine ext_set ?_ (by first | omega | (simp <;> omega)) _) | (with_reducible refine ext_trans ?_ (by with_reducible assumption)))) hw4
                have HW14 := Lib.hid hw4
                have HW4 := Lib.hid hwr4
                refine wp_region_later fol (by kernel_rfl) (fun hlater => ?_)
                repeat (go_big_quiet_step ((fail)))
                refine wpQuiet_nil ?_
                rintro w5 ⟨⟨w5x, hx5⟩, rfl⟩
                clear hlater
                have hw5r : Ext wr w5 := ext_trans HW4.out hx5
                have hw51 : Ext w1 w5 := ext_trans HW14.out hx5
                have hz5 := hw5r.size
                clear hx1 hx3 hw4 hwr4 hx5
                go_wp2_with (first
                  | (at_builtin; go_must (refine wpList_appAll gAt rfl (.tmp 80) (.tmp 81) 37 rfl wb.heap.size 52 i0 _ 3 40 Try.underlying37 HJ.out HZ0.out HZ1.out HZ2.out rfl (by omega) (F := fun j => wb.heap.size ≤ j) (G := fun j => wr.heap.size ≤ j) (.slice a5 n5 c5) fl rfl (osl_ext gAt HO.out (by repeat (first | (with_reducible exact ext_refl _) | (with_reducible assumption) | (with_reducible refine ext_drew ?_) | (with_reducible refine ext_drewN ?_ _) | (with_reducible refine ext_alloc ?_ _) | (with_reducible refine ext_set ?_ (by first | omega | (simp <;> omega)) _) | (with_reducible refine ext_trans ?_ (by with_reducible assumption))))) (.slice a1 n1 c1) al rfl (HV1.out.ext gAt (by repeat (first | (with_reducible exact ext_refl _) | (with_reducible assumption) | (with_reducible refine ext_drew ?_) | (with_reducible refine ext_drewN ?_ _) | (with_reducible refine ext_alloc ?_ _) | (with_reducible refine ext_set ?_ (by first | omega | (simp <;> omega)) _) | (with_reducible refine ext_trans ?_ (by with_reducible assumption))))) one_at (fun j hj _ => ⟨(show wb.heap.size ≤ j by omega), fun e => by have := HOL.out j e.symm; omega⟩) (len360 hfl hal) (byt360 hfl hal) (by first | omega | (simp <;> omega)) ?_; intro v9 w9 hown9 hg9 hat9; obtain ⟨a9, n9, c9, rfl⟩ := osl_slice hown9; have hx9 : Ext wb w9 := ext_grow (ext_trans HX.out (by repeat (first | (with_reducible exact ext_refl _) | (with_reducible assumption) | (with_reducible refine ext_drew ?_) | (with_reducible refine ext_drewN ?_ _) | (with_reducible refine ext_alloc ?_ _) | (with_reducible refine ext_set ?_ (by first | omega | (simp <;> omega)) _) | (with_reducible refine ext_trans ?_ (by with_reducible assumption))))) hg9 (fun j hj => (HOL.out j hj).1))))
                go_roundw
                case rel => (try rw [wrap_two hmb]); exact ⟨m + 1 + 1, Nat.succ_le_of_lt hlt, rfl, Lib.hid (by rw [HFL.out]; exact hown9), hx9⟩
                case measure => (try rw [wrap_two hmb]); exact meas_two hlt
            · clear iw3 iw4
              by_cases he : er = 0
              · subst he
                have t9 : (ordM (nl, nc) (p, d) == 0) = false := by rw [beq_eq_false_iff_ne]; exact HAP.out rfl
                refine wp_name (fun W4 eW4 => ?_)
                have g0 : W4.cell? ⟨w1.heap.size, 0, none⟩ = some (.slice a3 n3 c3) := by rw [eW4]; go_simp
                have g1 : W4.cell? ⟨w1.heap.size, 1, none⟩ = some (.int .i64 nc) := by rw [eW4]; go_simp
                have g2 : W4.cell? ⟨b, o + (m + 1) * 3, none⟩ = some (.slice ap p.length cp) := by rw [eW4]; go_simp
                have g3 : W4.cell? ⟨b, o + (m + 1) * 3 + 1, none⟩ = some (.int .i64 d) := by rw [eW4]; go_simp
                have zW4_0 : b < W4.heap.size := by rw [eW4]; first | assumption | omega | (simp <;> omega)
                have zW4_1 : w1.heap.size < W4.heap.size := by rw [eW4]; first | assumption | omega | (simp <;> omega)
                have hw4 : Ext w1 W4 := by rw [eW4]; exact (by repeat (first | (with_reducible exact ext_refl _) | (with_reducible assumption) | (with_reducible refine ext_drew ?_) | (with_reducible refine ext_drewN ?_ _) | (with_reducible refine ext_alloc ?_ _) | (with_reducible refine ext_set ?_ (by first | omega | (simp <;> omega)) _) | (with_reducible refine ext_trans ?_ (by with_reducible assumption))))
                have HV4 : RSl RStp 2 (fun _ => True) W4 (.slice a3 n3 c3) nl := by rw [eW4]; exact RSl.more gStp (fun _ _ _ => trivial) (RSl.keep gStp (by repeat (first | (with_reducible exact keeps_refl) | (with_reducible refine keeps_drew ?_) | (with_reducible refine keeps_alloc ?_ _) | (with_reducible refine keeps_set ?_ (by first | omega | (simp <;> omega)) _))) HV3.out)
                have HV4 := Lib.hid HV4
                clear eW4
                have hwr4 : Ext wr W4 := ext_trans (by repeat (first | (with_reducible exact ext_refl _) | (with_reducible assumption) | (with_reducible refine ext_drew ?_) | (with_reducible refine ext_drewN ?_ _) | (with_reducible refine ext_alloc ?_ _) | (with_reducible refine ext_set ?_ (by first | omega | (simp <;> omega)) _) | (with_reducible refine ext_trans ?_ (by with_reducible assumption)))) hw4
                have HW4 := Lib.hid hwr4
                have HW14 := Lib.hid hw4
                have HOR := Lib.hid (fun (W : World) (hx : Ext W4 W) => order_any (rmk_of' (HV4.out.ext gStp hx) HI3.out) (HPP.out _ (ext_trans HW4.out hx)))
                generalize ordM (nl, nc) (p, d) = od at *
                refine wp_region_later fol (by kernel_rfl) (fun hlater => ?_)
                repeat (go_big_quiet_step ((first
                    | (go_at_call 34; (with_reducible exact later_of (HOR.out _ (Later.ext _)))))))
                refine wpQuiet_nil ?_
                rintro w5 ⟨⟨w5x, hx5⟩, rfl⟩
                clear hlater
                have hw5r : Ext wr w5 := ext_trans HW4.out hx5
                have hw51 : Ext w1 w5 := ext_trans HW14.out hx5
                have hz5 := hw5r.size
                clear hx1 hx3 hw4 hwr4 hx5
                go_wp2_with (first
                  | (at_builtin; go_must (refine wpList_appAll gAt rfl (.tmp 80) (.tmp 81) 37 rfl wb.heap.size 52 i0 _ 3 40 Try.underlying37 HJ.out HZ0.out HZ1.out HZ2.out rfl (by omega) (F := fun j => wb.heap.size ≤ j) (G := fun j => wr.heap.size ≤ j) (.slice a5 n5 c5) fl rfl (osl_ext gAt HO.out (by repeat (first | (with_reducible exact ext_refl _) | (with_reducible assumption) | (with_reducible refine ext_drew ?_) | (with_reducible refine ext_drewN ?_ _) | (with_reducible refine ext_alloc ?_ _) | (with_reducible refine ext_set ?_ (by first | omega | (simp <;> omega)) _) | (with_reducible refine ext_trans ?_ (by with_reducible assumption))))) (.slice a1 n1 c1) al rfl (HV1.out.ext gAt (by repeat (first | (with_reducible exact ext_refl _) | (with_reducible assumption) | (with_reducible refine ext_drew ?_) | (with_reducible refine ext_drewN ?_ _) | (with_reducible refine ext_alloc ?_ _) | (with_reducible refine ext_set ?_ (by first | omega | (simp <;> omega)) _) | (with_reducible refine ext_trans ?_ (by with_reducible assumption))))) one_at (fun j hj _ => ⟨(show wb.heap.size ≤ j by omega), fun e => by have := HOL.out j e.symm; omega⟩) (len360 hfl hal) (byt360 hfl hal) (by first | omega | (simp <;> omega)) ?_; intro v9 w9 hown9 hg9 hat9; obtain ⟨a9, n9, c9, rfl⟩ := osl_slice hown9; have hx9 : Ext wb w9 := ext_grow (ext_trans HX.out (by repeat (first | (with_reducible exact ext_refl _) | (with_reducible assumption) | (with_reducible refine ext_drew ?_) | (with_reducible refine ext_drewN ?_ _) | (with_reducible refine ext_alloc ?_ _) | (with_reducible refine ext_set ?_ (by first | omega | (simp <;> omega)) _) | (with_reducible refine ext_trans ?_ (by with_reducible assumption))))) hg9 (fun j hj => (HOL.out j hj).1))))
                go_roundw
                case rel => (try rw [wrap_two hmb]); exact ⟨m + 1 + 1, Nat.succ_le_of_lt hlt, rfl, Lib.hid (by rw [HFL.out]; exact hown9), hx9⟩
                case measure => (try rw [wrap_two hmb]); exact meas_two hlt
              · have t8 : (er == 0) = false := by rw [beq_eq_false_iff_ne]; exact he
                refine wp_name (fun W4 eW4 => ?_)
                have zW4_0 : b < W4.heap.size := by rw [eW4]; first | assumption | omega | (simp <;> omega)
                have hw4 : Ext w1 W4 := by rw [eW4]; exact (by repeat (first | (with_reducible exact ext_refl _) | (with_reducible assumption) | (with_reducible refine ext_drew ?_) | (with_reducible refine ext_drewN ?_ _) | (with_reducible refine ext_alloc ?_ _) | (with_reducible refine ext_set ?_ (by first | omega | (simp <;> omega)) _) | (with_reducible refine ext_trans ?_ (by with_reducible assumption))))
                clear eW4
                have hwr4 : Ext wr W4 := ext_trans (by repeat (first | (with_reducible exact ext_refl _) | (with_reducible assumption) | (with_reducible refine ext_drew ?_) | (with_reducible refine ext_drewN ?_ _) | (with_reducible refine ext_alloc ?_ _) | (with_reducible refine ext_set ?_ (by first | omega | (simp <;> omega)) _) | (with_reducible refine ext_trans ?_ (by with_reducible assumption)))) hw4
                have HW14 := Lib.hid hw4
                have HW4 := Lib.hid hwr4
                refine wp_region_later fol (by kernel_rfl) (fun hlater => ?_)
                repeat (go_big_quiet_step ((fail)))
                refine wpQuiet_nil ?_
                rintro w5 ⟨⟨w5x, hx5⟩, rfl⟩
                clear hlater
                have hw5r : Ext wr w5 := ext_trans HW4.out hx5
                have hw51 : Ext w1 w5 := ext_trans HW14.out hx5
                have hz5 := hw5r.size
                clear hx1 hx3 hw4 hwr4 hx5
                go_wp2_with (first
                  | (at_builtin; go_must (refine wpList_appAll gAt rfl (.tmp 80) (.tmp 81) 37 rfl wb.heap.size 52 i0 _ 3 40 Try.underlying37 HJ.out HZ0.out HZ1.out HZ2.out rfl (by omega) (F := fun j => wb.heap.size ≤ j) (G := fun j => wr.heap.size ≤ j) (.slice a5 n5 c5) fl rfl (osl_ext gAt HO.out (by repeat (first | (with_reducible exact ext_refl _) | (with_reducible assumption) | (with_reducible refine ext_drew ?_) | (with_reducible refine ext_drewN ?_ _) | (with_reducible refine ext_alloc ?_ _) | (with_reducible refine ext_set ?_ (by first | omega | (simp <;> omega)) _) | (with_reducible refine ext_trans ?_ (by with_reducible assumption))))) (.slice a1 n1 c1) al rfl (HV1.out.ext gAt (by repeat (first | (with_reducible exact ext_refl _) | (with_reducible assumption) | (with_reducible refine ext_drew ?_) | (with_reducible refine ext_drewN ?_ _) | (with_reducible refine ext_alloc ?_ _) | (with_reducible refine ext_set ?_ (by first | omega | (simp <;> omega)) _) | (with_reducible refine ext_trans ?_ (by with_reducible assumption))))) one_at (fun j hj _ => ⟨(show wb.heap.size ≤ j by omega), fun e => by have := HOL.out j e.symm; omega⟩) (len360 hfl hal) (byt360 hfl hal) (by first | omega | (simp <;> omega)) ?_; intro v9 w9 hown9 hg9 hat9; obtain ⟨a9, n9, c9, rfl⟩ := osl_slice hown9; have hx9 : Ext wb w9 := ext_grow (ext_trans HX.out (by repeat (first | (with_reducible exact ext_refl _) | (with_reducible assumption) | (with_reducible refine ext_drew ?_) | (with_reducible refine ext_drewN ?_ _) | (with_reducible refine ext_alloc ?_ _) | (with_reducible refine ext_set ?_ (by first | omega | (simp <;> omega)) _) | (with_reducible refine ext_trans ?_ (by with_reducible assumption))))) hg9 (fun j hj => (HOL.out j hj).1))))
                go_roundw
                case rel => (try rw [wrap_two hmb]); exact ⟨m + 1 + 1, Nat.succ_le_of_lt hlt, rfl, Lib.hid (by rw [HFL.out]; exact hown9), hx9⟩
                case measure => (try rw [wrap_two hmb]); exact meas_two hlt
          · have t1 : decide ((s2.size : Int) < 60) = false := decide_eq_false (fun h9 => h60 (Int.ofNat_lt.1 h9))
            have t1b : decide (s2.size < 60) = false := decide_eq_false h60
            clear hck ek hp ick em icm hp2 eb2 hap hsl2 hs2 h60 HNX
            go_wp2_with (first
              | (go_at_call 39; go_must ((with_reducible refine (HAT.out _ (by repeat (first | (with_reducible exact ext_refl _) | (with_reducible assumption) | (with_reducible refine ext_drew ?_) | (with_reducible refine ext_drewN ?_ _) | (with_reducible refine ext_alloc ?_ _) | (with_reducible refine ext_set ?_ (by first | omega | (simp <;> omega)) _) | (with_reducible refine ext_trans ?_ (by with_reducible assumption))))).mono ?_); rintro e w1 ⟨v1, rfl, hv1, hx1⟩; obtain ⟨a1, n1, c1, rfl⟩ := hv1.slice; have HV1 := Lib.hid hv1; clear hv1; have hz1 := hx1.size; (try simp at hz1); have hb1 : b < w1.heap.size := (by omega); have hb1n : ¬ b = w1.heap.size := (by omega); have hb1m : ¬ w1.heap.size = b := (by omega); have q0 := (hx1.cells (b) (o + (m + 1) * 3) (by first | omega | (simp <;> omega))).trans (show _ = some (.slice ap p.length cp) by first | assumption | go_simp); have q1 := (hx1.cells (b) (o + (m + 1) * 3 + 1) (by first | omega | (simp <;> omega))).trans (show _ = some (.int .i64 d) by first | assumption | go_simp); have q2 := (hx1.cells (b) (o + m * 3) (by first | omega | (simp <;> omega))).trans (show _ = some (.slice ap2 p2.length cp2) by first | assumption | go_simp); have q3 := (hx1.cells (b) (o + m * 3 + 1) (by first | omega | (simp <;> omega))).trans (show _ = some (.int .i64 d2) by first | assumption | go_simp); have q4 := (hx1.cells (b) (o + m * 3 + 2) (by first | omega | (simp <;> omega))).trans (show _ = some (.string s2) by first | assumption | go_simp)))
              | (clear iw3 iw4; (at_builtin; go_must (refine wpList_appAll gAt rfl (.tmp 80) (.tmp 81) 37 rfl wb.heap.size 52 i0 _ 3 40 Try.underlying37 HJ.out HZ0.out HZ1.out HZ2.out rfl (by omega) (F := fun j => wb.heap.size ≤ j) (G := fun j => wr.heap.size ≤ j) (.slice a5 n5 c5) fl rfl (osl_ext gAt HO.out (by repeat (first | (with_reducible exact ext_refl _) | (with_reducible assumption) | (with_reducible refine ext_drew ?_) | (with_reducible refine ext_drewN ?_ _) | (with_reducible refine ext_alloc ?_ _) | (with_reducible refine ext_set ?_ (by first | omega | (simp <;> omega)) _) | (with_reducible refine ext_trans ?_ (by with_reducible assumption))))) (.slice a1 n1 c1) al rfl (HV1.out.ext gAt (by repeat (first | (with_reducible exact ext_refl _) | (with_reducible assumption) | (with_reducible refine ext_drew ?_) | (with_reducible refine ext_drewN ?_ _) | (with_reducible refine ext_alloc ?_ _) | (with_reducible refine ext_set ?_ (by first | omega | (simp <;> omega)) _) | (with_reducible refine ext_trans ?_ (by with_reducible assumption))))) one_at (fun j hj _ => ⟨(show wb.heap.size ≤ j by omega), fun e => by have := HOL.out j e.symm; omega⟩) (len360 hfl hal) (byt360 hfl hal) (by first | omega | (simp <;> omega)) ?_; intro v9 w9 hown9 hg9 hat9; obtain ⟨a9, n9, c9, rfl⟩ := osl_slice hown9; have hx9 : Ext wb w9 := ext_grow (ext_trans HX.out (by repeat (first | (with_reducible exact ext_refl _) | (with_reducible assumption) | (with_reducible refine ext_drew ?_) | (with_reducible refine ext_drewN ?_ _) | (with_reducible refine ext_alloc ?_ _) | (with_reducible refine ext_set ?_ (by first | omega | (simp <;> omega)) _) | (with_reducible refine ext_trans ?_ (by with_reducible assumption))))) hg9 (fun j hj => (HOL.out j hj).1)))))
            go_roundw
            case rel => (try rw [wrap_two hmb]); exact ⟨m + 1 + 1, Nat.succ_le_of_lt hlt, rfl, Lib.hid (by rw [HFL.out]; exact hown9), hx9⟩
            case measure => (try rw [wrap_two hmb]); exact meas_two hlt
      · have hkl : k = q.length := by omega
        subst hkl
        have HF := Lib.hid (show RSl RAt 3 (fun j => wb.heap.size ≤ j) wr (.slice a5 n5 c5) l by
          have h9 := HO.out
          rw [List.take_of_length_le (Nat.le_refl _), HIN.out.1] at h9
          exact osl_rsl gAt h9 (fun j hj _ => hj) (fun j hj => hj))
        go_wp2_with (go_at_call 49; go_must ((with_reducible refine (sameAtoms_any (HF.out.ext gAt (by repeat (first | (with_reducible exact ext_refl _) | (with_reducible assumption) | (with_reducible refine ext_drew ?_) | (with_reducible refine ext_drewN ?_ _) | (with_reducible refine ext_alloc ?_ _) | (with_reducible refine ext_set ?_ (by first | omega | (simp <;> omega)) _) | (with_reducible refine ext_trans ?_ (by with_reducible assumption))))) (HL.out _ (ext_trans hwb (ext_trans HX.out (by repeat (first | (with_reducible exact ext_refl _) | (with_reducible assumption) | (with_reducible refine ext_drew ?_) | (with_reducible refine ext_drewN ?_ _) | (with_reducible refine ext_alloc ?_ _) | (with_reducible refine ext_set ?_ (by first | omega | (simp <;> omega)) _) | (with_reducible refine ext_trans ?_ (by with_reducible assumption)))))))).mono ?_); rintro e w9 ⟨rfl, hx9⟩))
        go_ret
        exact ⟨rfl, ext_trans hwb (ext_trans HX.out (by repeat (first | (with_reducible exact ext_refl _) | (with_reducible assumption) | (with_reducible refine ext_drew ?_) | (with_reducible refine ext_drewN ?_ _) | (with_reducible refine ext_alloc ?_ _) | (with_reducible refine ext_set ?_ (by first | omega | (simp <;> omega)) _) | (with_reducible refine ext_trans ?_ (by with_reducible assumption)))))⟩
  · rw [if_neg h1] at HRS
    have t1 : (checkA l != 0) = true := by simpa using h1
    generalize checkA l = er at *
    clear h1
    go_enter Try.func12, Try.ntmps12
    go_wp2_with (first
      | (go_at_call 40; go_must ((with_reducible refine (HRS.out _ (by repeat (first | (with_reducible exact ext_refl _) | (with_reducible assumption) | (with_reducible refine ext_drew ?_) | (with_reducible refine ext_drewN ?_ _) | (with_reducible refine ext_alloc ?_ _) | (with_reducible refine ext_set ?_ (by first | omega | (simp <;> omega)) _) | (with_reducible refine ext_trans ?_ (by with_reducible assumption))))).mono ?_); rintro e w2 ⟨v2, rfl, hv2, hx2⟩; obtain ⟨a2, n2, c2, rfl⟩ := hv2.slice; obtain rfl : n2 = 0 := hv2.len.1; have HV2 := Lib.hid hv2; clear hv2; have hz2 := hx2.size; (try simp at hz2)))
      | (go_at_call 45; go_must ((with_reducible refine (runBegun_any _).mono ?_); rintro e w3 ⟨rfl, hx3⟩; have hz3 := hx3.size; (try simp at hz3))))
    go_ret
    exact ⟨rfl, (by repeat (first | (with_reducible exact ext_refl _) | (with_reducible assumption) | (with_reducible refine ext_drew ?_) | (with_reducible refine ext_drewN ?_ _) | (with_reducible refine ext_alloc ?_ _) | (with_reducible refine ext_set ?_ (by first | omega | (simp <;> omega)) _) | (with_reducible refine ext_trans ?_ (by with_reducible assumption))))⟩
end Go.Proofs.Ythkhkbjkbpgaoaa
