/- A sign that comes. -/
import Derived.Test.YthkhkbjkbpgaoaaD8
set_option linter.unusedVariables false
set_option linter.unusedSimpArgs false
namespace Go.Proofs.Ythkhkbjkbpgaoaa
open Go Go.RowKit Go.BigFrame Cp

theorem enc_sign {c : UInt8} (h : signB c = true) : Utf8.encode (c.toNat : Int) = ⟨#[c]⟩ := by
  unfold signB at h
  simp only [Bool.and_eq_true, decide_eq_true_eq] at h
  have hv : Utf8.valid (c.toNat : Int) = true := by unfold Utf8.valid; simp; omega
  unfold Utf8.encode
  simp only [hv, if_true]
  rw [if_pos (by omega)]
  simp
theorem tx_one (tb : ByteArray) (c : UInt8) : tb ++ ⟨#[c]⟩ = ⟨(tb.data.toList ++ [c]).toArray⟩ := by
  apply ByteArray.ext
  simp only [ByteArray.data_append]
  apply Array.ext'
  simp

set_option maxRecDepth 100000 in
set_option maxHeartbeats 4000000 in
theorem puts_any {w0 w : World} {O base : Nat} {v : Value} {out : List Edt} {k : Int} {c : UInt8} (hw0 : Ext w0 w) (hO0 : w0.heap.size ≤ O) (hOb : O < base) (hbase : base ≤ w.heap.size) (hc : w.cell? ⟨O, 0, none⟩ = some v) (hf : w.frozen? ⟨O, 0, none⟩ = false)
    (hown : OSl REd 4 32 base (fun _ => True) w v out) (hk : 0 ≤ k ∧ k ≤ 1000) (hl : out.length ≤ 1000) (hm : ∀ e ∈ out, 0 ≤ e.at_ ∧ e.at_ ≤ 1000 ∧ e.text.length ≤ 60) (hs : signB c = true) :
    Calls Try.prog 100 #[.int .i64 k, .int .u8 (c.toNat : Int), .pointer (some ⟨O, 0, none⟩)] w (IsAcc w0 w O base v (putStep out k c)) := by
  obtain ⟨i0, hi0, hz0, hz1, hz2⟩ := info_parts info_edit
  have HI := Lib.hid hi0
  have HZ0 := Lib.hid hz0
  have HZ1 := Lib.hid hz1
  have HZ2 := Lib.hid hz2
  clear hi0 hz0 hz1 hz2
  obtain ⟨k1, k2⟩ := hk
  have hOw : O < w.heap.size := by omega
  have HOL := Lib.hid (osl_lt hown)
  have HW0 := Lib.hid hw0
  have hOwn := Lib.hid hown
  obtain ⟨a, n, cp, rfl⟩ := osl_slice hown
  obtain ⟨hn, hcap1, hcap2⟩ := osl_len hown
  have HNO := Lib.hid (show some O ≠ (Value.slice a n cp).ownBlock from fun e => by have := (HOL.out O e.symm).1; omega)
  have HR := Lib.hid (fun (W : World) => red_mk (F := fun _ => False) (W := W) (a := 1) (b := k) (c := 0) (t := []) (by unfold I64; omega) (by unfold I64; omega) (by unfold I64; omega) (by simp))
  have henc := enc_sign hs
  have hemp : (⟨#[]⟩ : ByteArray) ++ ⟨#[c]⟩ = ⟨#[c]⟩ := by apply ByteArray.ext; simp [ByteArray.data_append]
  have hTX := Lib.hid (fun tb => tx_one tb c)
  clear hw0 hs
  rcases List.eq_nil_or_concat out with rfl | ⟨q, e, rfl⟩
  · have HT : Hid (putStep [] k c = [⟨1, k, 0, [c]⟩]) := rfl
    obtain rfl : n = 0 := hn
    clear hown hm
    rw [HT.out]
    go_enter Try.func100, Try.ntmps100
    go_wp2_with fail
    go_quiet (fail)
    generalize ewq : w.drewN nq = wq
    have hxq : Ext w wq := by rw [← ewq]; exact ext_drewN (ext_refl _) _
    clear ewq
    have hcq := (hxq.cells O 0 hOw).trans hc
    have hfq := (hxq.frz O 0 hOw).trans hf
    have hOq : O < wq.heap.size := (by have := hxq.size; omega)
    have hszq := hxq.size
    clear hc hf
    have HXQ := Lib.hid hxq
    clear hxq
    go_wp2_with (at_builtin; go_must (refine wpList_app1 gEd rfl (.tmp 36) (.tmp 39) 22 rfl base 32 i0 _ 4 40 Try.underlying22 HI.out HZ0.out HZ1.out HZ2.out rfl (by omega) (F := fun _ => True) (G := fun _ => False) (.slice a 0 cp) ([] : List Edt) rfl (osl_ext gEd hOwn.out (ext_alloc HXQ.out _)) wq.heap.size 0 1 [.int .i64 1, .int .i64 k, .int .i64 0, .string ⟨#[]⟩] ⟨1, k, 0, []⟩ rfl rfl (rangeAt4 (by go_simp) (by go_simp) (by go_simp) (by go_simp)) (one_ed _ w _ _ (HR.out w)) (HR.out _) (fun j hj _ => hj.elim) (by first | (simp [maxLen]; done) | (simp only [maxLen, List.length_append, List.length_cons, List.length_nil]; omega)) (by first | (simp; done) | (simp only [List.length_append, List.length_cons, List.length_nil]; omega)) (by simp; omega) ?_; intro v9 w9 hown9 hg9 hat9; obtain ⟨a9, n9, c9, rfl⟩ := osl_slice hown9; obtain ⟨g9, hn9e, rfl, hb9, hs9, _, _, _, _, y0, y1, y2, y3, fr9⟩ := acc_at hown9 (i := 0) (x := ⟨1, k, 0, []⟩) (by simp); obtain rfl : n9 = 1 := (by rw [hn9e]; simp); clear hn9e; have o9 := (World.cell?_of_block (a := ⟨O, 0, none⟩) (hg9.block O (by simp; omega) HNO.out)).trans (show _ = some (.slice a 0 cp) by go_simp); have of9 := (World.frozen?_of_block (a := ⟨O, 0, none⟩) (hg9.block O (by simp; omega) HNO.out)).trans (show _ = false by go_simp); have f9 := fr9 (0 * 4 + 3); have HY := Lib.hid hown9; have HG := Lib.hid hg9; have HAT := Lib.hid hat9; have hn9 : ¬ g9 = O := (by omega); have hn9' : ¬ O = g9 := (by omega); have hz9 := hg9.size; clear hown9 hg9 hat9 fr9; (try simp only [Nat.zero_mul, Nat.zero_add] at y3 f9); replace y3 := (show w9.cell? ⟨g9, 3, none⟩ = some (.string ⟨#[]⟩) from y3)))
    go_end0
    refine ⟨rfl, ext_set (ext_set (ext_grown (ext_alloc (ext_trans HW0.out HXQ.out) _) HG.out (fun j hj => by have := (HOL.out j hj).1; omega)) hO0 _) (show w0.heap.size ≤ g9 by omega) _, keeps_set (keeps_set ⟨Nat.le_trans (Nat.le_trans hszq (by simp)) HG.out.size, fun j hj hlt => (HG.out.block j (by simp; omega) hj.2).trans ((Below.heap_alloc _ _ j (by omega)).trans (Below.block HXQ.out j hlt))⟩ (fun _ h => h.1 rfl) _) (fun hlt h => by rcases HAT.out with h1 | h1; (· exact h.2 (h1 ▸ own_some.symm)); (· rw [own_some] at h1; injection h1 with h1; simp at h1; have hlt2 : g9 < w.heap.size := hlt; omega)) _, .slice (some ⟨g9, 0, none⟩) 1 c9, by go_simp, by go_simp, ?_, ?_⟩
    · have h9 := osl_put gEd (osl_lset lf_ed (p := ⟨O, 0, none⟩) (fun e => hn9' e) HY.out (.slice (some ⟨g9, 0, none⟩) 1 c9)) (i := 0) (j := 3) (by simp) (by omega) (u := .string ⟨#[c]⟩) (x := ⟨1, k, 0, [c]⟩) (fun G W cs y hy hr => by
        simp at hy
        subst hy
        obtain ⟨s, rfl, h1, h2, h3, h4⟩ := hr
        exact ⟨_, rfl, h1, h2, h3, rfl, by simp⟩)
      simpa using h9
    · rcases HAT.out with h1 | h1
      · exact .inl h1
      · exact .inr ⟨_, h1, by simp; omega⟩
  · rw [List.concat_eq_append] at *
    obtain ⟨kd, pl, mn, tx⟩ := e
    obtain ⟨tb, rfl⟩ : ∃ tb : ByteArray, tx = tb.data.toList := ⟨⟨tx.toArray⟩, by simp⟩
    have hel : (q ++ [(⟨kd, pl, mn, tb.data.toList⟩ : Edt)])[q.length]? = some ⟨kd, pl, mn, tb.data.toList⟩ := by simp
    obtain ⟨g, -, rfl, hg1, hg2, ik, ia, im, it, z0, z1, z2, z3, hfr⟩ := acc_at hown hel
    obtain ⟨m1, m2, m3⟩ := hm ⟨kd, pl, mn, tb.data.toList⟩ (by simp)
    simp only at m1 m2 m3 z0 z1 z2 z3 ik ia im it
    rw [tx_back] at z3
    have hbs : tb.data.toList.length = tb.size := by simp
    have HBS := Lib.hid hbs
    rw [hbs] at m3
    have hq : (q ++ [(⟨kd, pl, mn, tb.data.toList⟩ : Edt)]).length = q.length + 1 := by simp
    obtain rfl : n = q.length + 1 := hn.trans hq
    rw [hq] at hl
    have tq : decide ((q.length : Int) < 0) = false := decide_eq_false (by omega)
    have f3 := hfr (q.length * 4 + 3)
    have hww : IntKind.i64.wrap (pl + (tb.size : Int)) = pl + (tb.size : Int) := IntWalk.i64_in _ (by omega)
    by_cases h0 : pl + (tb.size : Int) = k
    · by_cases h6 : tb.size = 60
      · have HT := Lib.hid (show putStep (q ++ [(⟨kd, pl, mn, tb.data.toList⟩ : Edt)]) k c = (q ++ [(⟨kd, pl, mn, tb.data.toList⟩ : Edt)]) ++ [⟨1, k, 0, [c]⟩] by simp [putStep, HBS.out, h6])
        have t0 : (pl + (tb.size : Int) != k) = false := by simpa using h0
        have t1 : ((tb.size : Int) == 60) = true := by rw [h6]; rfl
        clear h0 h6 hown hm hel hfr hn hq hbs
        rw [HT.out]
        go_enter Try.func100, Try.ntmps100
        go_wp2_with fail
        go_quiet (fail)
        clear hww
        generalize ewq : w.drewN nq = wq
        have hxq : Ext w wq := by rw [← ewq]; exact ext_drewN (ext_refl _) _
        clear ewq
        have hcq := (hxq.cells O 0 hOw).trans hc
        have hfq := (hxq.frz O 0 hOw).trans hf
        have hOq : O < wq.heap.size := (by have := hxq.size; omega)
        have hszq := hxq.size
        have z3q := (hxq.cells g (q.length * 4 + 3) hg2).trans z3
        have f3q := (hxq.frz g (q.length * 4 + 3) hg2).trans f3
        clear z0 z1 z2 z3 f3
        clear hc hf
        have HXQ := Lib.hid hxq
        clear hxq
        go_wp2_with (at_builtin; go_must (refine wpList_app1 gEd rfl (.tmp 36) (.tmp 39) 22 rfl base 32 i0 _ 4 40 Try.underlying22 HI.out HZ0.out HZ1.out HZ2.out rfl (by omega) (F := fun _ => True) (G := fun _ => False) (.slice (some ⟨g, 0, none⟩) (q.length + 1) cp) (q ++ [(⟨kd, pl, mn, tb.data.toList⟩ : Edt)]) rfl (osl_ext gEd hOwn.out (ext_alloc HXQ.out _)) wq.heap.size 0 1 [.int .i64 1, .int .i64 k, .int .i64 0, .string ⟨#[]⟩] ⟨1, k, 0, []⟩ rfl rfl (rangeAt4 (by go_simp) (by go_simp) (by go_simp) (by go_simp)) (one_ed _ w _ _ (HR.out w)) (HR.out _) (fun j hj _ => hj.elim) (by first | (simp [maxLen]; done) | (simp only [maxLen, List.length_append, List.length_cons, List.length_nil]; omega)) (by first | (simp; done) | (simp only [List.length_append, List.length_cons, List.length_nil]; omega)) (by simp; omega) ?_; intro v9 w9 hown9 hg9 hat9; obtain ⟨a9, n9, c9, rfl⟩ := osl_slice hown9; obtain ⟨g9, hn9e, rfl, hb9, hs9, _, _, _, _, y0, y1, y2, y3, fr9⟩ := acc_at hown9 (i := (q.length + 1)) (x := ⟨1, k, 0, []⟩) (by simp); obtain rfl : n9 = (q.length + 1 + 1) := (by rw [hn9e]; simp); clear hn9e; have o9 := (World.cell?_of_block (a := ⟨O, 0, none⟩) (hg9.block O (by simp; omega) HNO.out)).trans (show _ = some (.slice (some ⟨g, 0, none⟩) (q.length + 1) cp) by go_simp); have of9 := (World.frozen?_of_block (a := ⟨O, 0, none⟩) (hg9.block O (by simp; omega) HNO.out)).trans (show _ = false by go_simp); have f9 := fr9 ((q.length + 1) * 4 + 3); have HY := Lib.hid hown9; have HG := Lib.hid hg9; have HAT := Lib.hid hat9; have hn9 : ¬ g9 = O := (by omega); have hn9' : ¬ O = g9 := (by omega); have hz9 := hg9.size; clear hown9 hg9 hat9 fr9; (try simp only [Nat.zero_mul, Nat.zero_add] at y3 f9); replace y3 := (show w9.cell? ⟨g9, (q.length + 1) * 4 + 3, none⟩ = some (.string ⟨#[]⟩) from y3)))
        go_end0
        refine ⟨rfl, ext_set (ext_set (ext_grown (ext_alloc (ext_trans HW0.out HXQ.out) _) HG.out (fun j hj => by have := (HOL.out j hj).1; omega)) hO0 _) (show w0.heap.size ≤ g9 by omega) _, keeps_set (keeps_set ⟨Nat.le_trans (Nat.le_trans hszq (by simp)) HG.out.size, fun j hj hlt => (HG.out.block j (by simp; omega) hj.2).trans ((Below.heap_alloc _ _ j (by omega)).trans (Below.block HXQ.out j hlt))⟩ (fun _ h => h.1 rfl) _) (fun hlt h => by rcases HAT.out with h1 | h1; (· exact h.2 (h1 ▸ own_some.symm)); (· rw [own_some] at h1; injection h1 with h1; simp at h1; have hlt2 : g9 < w.heap.size := hlt; omega)) _, .slice (some ⟨g9, 0, none⟩) (q.length + 1 + 1) c9, by go_simp, by go_simp, ?_, ?_⟩
        · have h9 := osl_put gEd (osl_lset lf_ed (p := ⟨O, 0, none⟩) (fun e => hn9' e) HY.out (.slice (some ⟨g9, 0, none⟩) (q.length + 1 + 1) c9)) (i := (q.length + 1)) (j := 3) (by simp) (by omega) (u := .string ⟨#[c]⟩) (x := ⟨1, k, 0, [c]⟩) (fun G W cs y hy hr => by
            simp at hy
            subst hy
            obtain ⟨s, rfl, h1, h2, h3, h4⟩ := hr
            exact ⟨_, rfl, h1, h2, h3, rfl, by simp⟩)
          simpa using h9
        · rcases HAT.out with h1 | h1
          · exact .inl h1
          · exact .inr ⟨_, h1, by simp; omega⟩
      · have HT := Lib.hid (show putStep (q ++ [(⟨kd, pl, mn, tb.data.toList⟩ : Edt)]) k c = q ++ [⟨kd, pl, mn, tb.data.toList ++ [c]⟩] by simp only [putStep, List.getLast?_append, List.getLast?_singleton, Option.some_or]; rw [if_pos ⟨by rw [HBS.out]; exact h0, by rw [HBS.out]; exact h6⟩]; simp)
        have t0 : (pl + (tb.size : Int) != k) = false := by simpa using h0
        have t1 : ((tb.size : Int) == 60) = false := by rw [beq_eq_false_iff_ne]; omega
        have HPUT := Lib.hid (fun (W : World) (hW : Ext w W) => osl_put gEd (osl_ext gEd hOwn.out hW) (i := q.length) (j := 3) (by simp) (by omega) (u := .string (tb ++ ⟨#[c]⟩)) (x := ⟨kd, pl, mn, tb.data.toList ++ [c]⟩) (fun G W cs y hy hr => by
          rw [hel] at hy
          have := Option.some.inj hy
          subst this
          obtain ⟨s, rfl, h1, h2, h3, h4⟩ := hr
          exact ⟨_, rfl, h1, h2, h3, congrArg Value.string (hTX.out tb), by simp only [List.length_append, List.length_cons, List.length_nil, HBS.out]; omega⟩))
        clear h0 h6 hown hm hel hq hfr hn hbs
        rw [HT.out]
        go_enter Try.func100, Try.ntmps100
        go_wp2_with fail
        go_quiet (fail)
        clear hww
        generalize ewq : w.drewN nq = wq
        have hxq : Ext w wq := by rw [← ewq]; exact ext_drewN (ext_refl _) _
        clear ewq
        have hcq := (hxq.cells O 0 hOw).trans hc
        have hfq := (hxq.frz O 0 hOw).trans hf
        have hOq : O < wq.heap.size := (by have := hxq.size; omega)
        have hszq := hxq.size
        have z3q := (hxq.cells g (q.length * 4 + 3) hg2).trans z3
        have f3q := (hxq.frz g (q.length * 4 + 3) hg2).trans f3
        clear z0 z1 z2 z3 f3
        clear hc hf
        have HXQ := Lib.hid hxq
        clear hxq
        go_wp2_with fail
        go_end0
        refine ⟨rfl, ext_set (ext_trans HW0.out HXQ.out) (show w0.heap.size ≤ g by omega) _, keeps_set (keeps_ext keeps_refl HXQ.out) (fun _ h => h.2 rfl) _, _, by go_simp, by go_simp, ?_, .inl rfl⟩
        have h9 := HPUT.out _ HXQ.out
        simp only [List.set_append_right, Nat.le_refl, Nat.sub_self, List.set_cons_zero] at h9
        exact h9
    · have HT := Lib.hid (show putStep (q ++ [(⟨kd, pl, mn, tb.data.toList⟩ : Edt)]) k c = (q ++ [(⟨kd, pl, mn, tb.data.toList⟩ : Edt)]) ++ [⟨1, k, 0, [c]⟩] by simp only [putStep, List.getLast?_append, List.getLast?_singleton, Option.some_or]; rw [if_neg (fun h => h0 (by have h1 := h.1; rw [HBS.out] at h1; exact h1))])
      have t0 : (pl + (tb.size : Int) != k) = true := by simpa using h0
      clear h0 hown hm hel hfr hn hq hbs
      rw [HT.out]
      go_enter Try.func100, Try.ntmps100
      go_wp2_with fail
      go_quiet (fail)
      clear hww
      generalize ewq : w.drewN nq = wq
      have hxq : Ext w wq := by rw [← ewq]; exact ext_drewN (ext_refl _) _
      clear ewq
      have hcq := (hxq.cells O 0 hOw).trans hc
      have hfq := (hxq.frz O 0 hOw).trans hf
      have hOq : O < wq.heap.size := (by have := hxq.size; omega)
      have hszq := hxq.size
      have z3q := (hxq.cells g (q.length * 4 + 3) hg2).trans z3
      have f3q := (hxq.frz g (q.length * 4 + 3) hg2).trans f3
      clear z0 z1 z2 z3 f3
      clear hc hf
      have HXQ := Lib.hid hxq
      clear hxq
      go_wp2_with (at_builtin; go_must (refine wpList_app1 gEd rfl (.tmp 36) (.tmp 39) 22 rfl base 32 i0 _ 4 40 Try.underlying22 HI.out HZ0.out HZ1.out HZ2.out rfl (by omega) (F := fun _ => True) (G := fun _ => False) (.slice (some ⟨g, 0, none⟩) (q.length + 1) cp) (q ++ [(⟨kd, pl, mn, tb.data.toList⟩ : Edt)]) rfl (osl_ext gEd hOwn.out (ext_alloc HXQ.out _)) wq.heap.size 0 1 [.int .i64 1, .int .i64 k, .int .i64 0, .string ⟨#[]⟩] ⟨1, k, 0, []⟩ rfl rfl (rangeAt4 (by go_simp) (by go_simp) (by go_simp) (by go_simp)) (one_ed _ w _ _ (HR.out w)) (HR.out _) (fun j hj _ => hj.elim) (by first | (simp [maxLen]; done) | (simp only [maxLen, List.length_append, List.length_cons, List.length_nil]; omega)) (by first | (simp; done) | (simp only [List.length_append, List.length_cons, List.length_nil]; omega)) (by simp; omega) ?_; intro v9 w9 hown9 hg9 hat9; obtain ⟨a9, n9, c9, rfl⟩ := osl_slice hown9; obtain ⟨g9, hn9e, rfl, hb9, hs9, _, _, _, _, y0, y1, y2, y3, fr9⟩ := acc_at hown9 (i := (q.length + 1)) (x := ⟨1, k, 0, []⟩) (by simp); obtain rfl : n9 = (q.length + 1 + 1) := (by rw [hn9e]; simp); clear hn9e; have o9 := (World.cell?_of_block (a := ⟨O, 0, none⟩) (hg9.block O (by simp; omega) HNO.out)).trans (show _ = some (.slice (some ⟨g, 0, none⟩) (q.length + 1) cp) by go_simp); have of9 := (World.frozen?_of_block (a := ⟨O, 0, none⟩) (hg9.block O (by simp; omega) HNO.out)).trans (show _ = false by go_simp); have f9 := fr9 ((q.length + 1) * 4 + 3); have HY := Lib.hid hown9; have HG := Lib.hid hg9; have HAT := Lib.hid hat9; have hn9 : ¬ g9 = O := (by omega); have hn9' : ¬ O = g9 := (by omega); have hz9 := hg9.size; clear hown9 hg9 hat9 fr9; (try simp only [Nat.zero_mul, Nat.zero_add] at y3 f9); replace y3 := (show w9.cell? ⟨g9, (q.length + 1) * 4 + 3, none⟩ = some (.string ⟨#[]⟩) from y3)))
      go_end0
      refine ⟨rfl, ext_set (ext_set (ext_grown (ext_alloc (ext_trans HW0.out HXQ.out) _) HG.out (fun j hj => by have := (HOL.out j hj).1; omega)) hO0 _) (show w0.heap.size ≤ g9 by omega) _, keeps_set (keeps_set ⟨Nat.le_trans (Nat.le_trans hszq (by simp)) HG.out.size, fun j hj hlt => (HG.out.block j (by simp; omega) hj.2).trans ((Below.heap_alloc _ _ j (by omega)).trans (Below.block HXQ.out j hlt))⟩ (fun _ h => h.1 rfl) _) (fun hlt h => by rcases HAT.out with h1 | h1; (· exact h.2 (h1 ▸ own_some.symm)); (· rw [own_some] at h1; injection h1 with h1; simp at h1; have hlt2 : g9 < w.heap.size := hlt; omega)) _, .slice (some ⟨g9, 0, none⟩) (q.length + 1 + 1) c9, by go_simp, by go_simp, ?_, ?_⟩
      · have h9 := osl_put gEd (osl_lset lf_ed (p := ⟨O, 0, none⟩) (fun e => hn9' e) HY.out (.slice (some ⟨g9, 0, none⟩) (q.length + 1 + 1) c9)) (i := (q.length + 1)) (j := 3) (by simp) (by omega) (u := .string ⟨#[c]⟩) (x := ⟨1, k, 0, [c]⟩) (fun G W cs y hy hr => by
          simp at hy
          subst hy
          obtain ⟨s, rfl, h1, h2, h3, h4⟩ := hr
          exact ⟨_, rfl, h1, h2, h3, rfl, by simp⟩)
        simpa using h9
      · rcases HAT.out with h1 | h1
        · exact .inl h1
        · exact .inr ⟨_, h1, by simp; omega⟩
end Go.Proofs.Ythkhkbjkbpgaoaa
