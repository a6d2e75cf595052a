/- Notes pulled. -/
import Derived.Test.YtiladkinndgeaaaQcc0b5e69fd
import Derived.Test.YtiladkinndgeaaaQ0556a5407c
import Derived.Test.YtiladkinndgeaaaQd2ed7f145a
import Derived.Deep.CutRange
set_option linter.unusedVariables false
set_option linter.unusedSimpArgs false
namespace Go.Proofs.Ytiladkinndgeaaa
open Go Go.RowKit Go.BigFrame Cp

def IsPull (l : List No) (c m : Int) (w : World) (e : Ending) (w' : World) : Prop :=
  ∃ u, e = .returned (.tuple #[u, .int .i64 (pullE l c m)]) ∧ RSl RNo 4 (fun j => w.heap.size ≤ j) w' u (pullV l c m) ∧ Ext w w'
theorem pull_err_of {l : List No} {c m er : Int} {w w' : World} (h : pullE l c m = er) (hne : ¬ er = 0) (hx : Ext w w') : IsPull l c m w (.returned (.tuple #[.slice none 0 0, .int .i64 er])) w' := by
  have hv : pullV l c m = [] := by unfold pullV; rw [if_neg (by rw [h]; exact hne)]
  exact ⟨_, by rw [h], by rw [hv]; exact RSl.nil_ (Nat.zero_le _), hx⟩
theorem pull_part {l : List No} {i j k : Nat} (h1 : i ≤ k) (h2 : k = min l.length (i + j)) : (l.drop i).take (k - i) = (l.drop i).take j := by
  subst h2
  by_cases h : i + j ≤ l.length
  · rw [Nat.min_eq_right h, Nat.add_sub_cancel_left]
  · rw [Nat.min_eq_left (by omega), List.take_of_length_le (by rw [List.length_drop]; omega), List.take_of_length_le (by rw [List.length_drop]; omega)]
theorem wrap_two2 {i j : Nat} (h : i ≤ 300) (k : j ≤ 300) : wrap64 ((i : Int) + (j : Int)) = ((i + j : Nat) : Int) := by rw [IntWalk.wrap64_in _ (by omega)]; rfl
set_option maxRecDepth 100000 in
set_option maxHeartbeats 4000000 in
theorem pull_any {F : Nat → Prop} {w : World} {v : Value} {l : List No} {c m : Int} (h : RSl RNo 4 F w v l) (ic : I64 c) (im : I64 m) :
    Calls Try.prog 16 #[.agg #[v], .int .i64 c, .int .i64 m] w (IsPull l c m w) := by
  have HCR := Lib.hid (fun (W : World) (hx : Ext w W) => checkRelayP_any (h.ext gNo hx))
  have HSU := Lib.hid (fun (W : World) (hx : Ext w W) => h.ext gNo hx)
  obtain ⟨a0, n0, c0, rfl⟩ := h.slice
  obtain ⟨rfl, hn1, hn2⟩ := h.len
  clear h
  by_cases hc1 : checkLog l = 0
  · obtain ⟨hl3, hll⟩ := checkLog_ok.1 hc1
    by_cases hq : inB c 0 l.length = false ∨ inB m 0 300 = false
    · have HE := Lib.hid (show pullE l c m = 3 by unfold pullE; rw [if_neg (by simpa using hc1), if_pos hq])
      rw [hc1] at HCR
      have hq' : ¬ (0 ≤ c ∧ c ≤ l.length ∧ 0 ≤ m ∧ m ≤ 300) := by
        rintro ⟨g1, g2, g3, g4⟩
        rcases hq with h | h
        · unfold inB at h; simp at h; omega
        · unfold inB at h; simp at h; omega
      clear hc1 hq hll
      by_cases g1 : c < 0
      · have t1 : decide (c < 0) = true := decide_eq_true g1
        clear hq' g1
        go_enter Try.func16, Try.ntmps16
        go_wp2_with (first | (go_at_call 20; go_must ((with_reducible refine (HCR.out _ extA).mono ?_); rintro e w3 ⟨rfl, hx3⟩; have hz3 := hx3.size; (try simp at hz3); have hn3 : w.heap.size < w3.heap.size := (by omega); have b0 := (hx3.cells (w.heap.size) 0 (by first | omega | (simp <;> omega))).trans (show _ = some (.slice a0 l.length c0) by first | (with_reducible assumption) | go_simp); have HX3 := Lib.hid (show Ext w w3 from ext_trans extA hx3))))
        go_ret2
        exact pull_err_of HE.out (by omega) HX3.out
      have t1 : decide (c < 0) = false := decide_eq_false g1
      by_cases g2 : (l.length : Int) < c
      · have t2 : decide ((l.length : Int) < c) = true := decide_eq_true g2
        clear hq' g1 g2
        go_enter Try.func16, Try.ntmps16
        go_wp2_with (first | (go_at_call 20; go_must ((with_reducible refine (HCR.out _ extA).mono ?_); rintro e w3 ⟨rfl, hx3⟩; have hz3 := hx3.size; (try simp at hz3); have hn3 : w.heap.size < w3.heap.size := (by omega); have b0 := (hx3.cells (w.heap.size) 0 (by first | omega | (simp <;> omega))).trans (show _ = some (.slice a0 l.length c0) by first | (with_reducible assumption) | go_simp); have HX3 := Lib.hid (show Ext w w3 from ext_trans extA hx3))))
        go_ret2
        exact pull_err_of HE.out (by omega) HX3.out
      have t2 : decide ((l.length : Int) < c) = false := decide_eq_false g2
      by_cases g3 : m < 0
      · have t3 : decide (m < 0) = true := decide_eq_true g3
        clear hq' g1 g2 g3
        go_enter Try.func16, Try.ntmps16
        go_wp2_with (first | (go_at_call 20; go_must ((with_reducible refine (HCR.out _ extA).mono ?_); rintro e w3 ⟨rfl, hx3⟩; have hz3 := hx3.size; (try simp at hz3); have hn3 : w.heap.size < w3.heap.size := (by omega); have b0 := (hx3.cells (w.heap.size) 0 (by first | omega | (simp <;> omega))).trans (show _ = some (.slice a0 l.length c0) by first | (with_reducible assumption) | go_simp); have HX3 := Lib.hid (show Ext w w3 from ext_trans extA hx3))))
        go_ret2
        exact pull_err_of HE.out (by omega) HX3.out
      have t3 : decide (m < 0) = false := decide_eq_false g3
      have t4 : decide ((300 : Int) < m) = true := decide_eq_true (by omega)
      clear hq' g1 g2 g3
      go_enter Try.func16, Try.ntmps16
      go_wp2_with (first | (go_at_call 20; go_must ((with_reducible refine (HCR.out _ extA).mono ?_); rintro e w3 ⟨rfl, hx3⟩; have hz3 := hx3.size; (try simp at hz3); have hn3 : w.heap.size < w3.heap.size := (by omega); have b0 := (hx3.cells (w.heap.size) 0 (by first | omega | (simp <;> omega))).trans (show _ = some (.slice a0 l.length c0) by first | (with_reducible assumption) | go_simp); have HX3 := Lib.hid (show Ext w w3 from ext_trans extA hx3))))
      go_ret2
      exact pull_err_of HE.out (by omega) HX3.out
    · have hE : pullE l c m = 0 := by unfold pullE; rw [if_neg (by simpa using hc1), if_neg hq]
      obtain ⟨_, p1, p2, p3, p4⟩ := pull_right hE
      have hV : pullV l c m = (l.drop c.toNat).take m.toNat := by unfold pullV; rw [if_pos hE]
      obtain ⟨i, rfl⟩ : ∃ i : Nat, c = (i : Int) := ⟨c.toNat, by omega⟩
      obtain ⟨j, rfl⟩ : ∃ j : Nat, m = (j : Int) := ⟨m.toNat, by omega⟩
      rw [Int.toNat_natCast, Int.toNat_natCast] at hV
      obtain ⟨k, hk⟩ : ∃ k : Nat, k = min l.length (i + j) := ⟨_, rfl⟩
      have hik : i ≤ k := by omega
      have hkl : k ≤ l.length := by omega
      have HOW := Lib.hid (fun (W : World) (hx : Ext w W) (v : Value) (hv : RSl RNo 4 F W v ((l.drop i).take j)) => ownsNotes_any hv (by rw [List.length_take, List.length_drop]; omega) (fun n hn => by obtain ⟨t, ht⟩ := List.getElem?_of_mem (List.mem_of_mem_drop (List.mem_of_mem_take hn)); exact (hll t n ht).1))
      have HSB := Lib.hid (fun (W : World) (hx : Ext w W) => (show RSl RNo 4 F W _ ((l.drop i).take j) from by have := rsl_sub (HSU.out W hx) hik hkl; rwa [pull_part hik hk] at this))
      have HE := Lib.hid hE
      have HV := Lib.hid hV
      rw [hc1] at HCR
      have t1 : decide ((i : Int) < 0) = false := decide_eq_false (by omega)
      have t2 : decide ((l.length : Int) < (i : Int)) = false := decide_eq_false (by omega)
      have t3 : decide ((j : Int) < 0) = false := decide_eq_false (by omega)
      have t4 : decide ((300 : Int) < (j : Int)) = false := decide_eq_false (by omega)
      have HW := Lib.hid (wrap_two2 (i := i) (j := j) (by omega) (by omega))
      clear hE hV hc1 hq hll p1 p2 p3 p4
      go_enter Try.func16, Try.ntmps16
      go_upto_region 6 with (first | (go_at_call 20; go_must ((with_reducible refine (HCR.out _ extA).mono ?_); rintro e w3 ⟨rfl, hx3⟩; have hz3 := hx3.size; (try simp at hz3); have hn3 : w.heap.size < w3.heap.size := (by omega); have b0 := (hx3.cells (w.heap.size) 0 (by first | omega | (simp <;> omega))).trans (show _ = some (.slice a0 l.length c0) by first | (with_reducible assumption) | go_simp); have HX3 := Lib.hid (show Ext w w3 from ext_trans extA hx3))))
      refine wp_name (fun W4 eW4 => ?_)
      have b4 : W4.cell? ⟨w.heap.size, 0, none⟩ = some (.slice a0 l.length c0) := by rw [eW4]; go_simp
      have HX4 := Lib.hid (show Ext w W4 by rw [eW4]; exact ext_trans HX3.out extA)
      clear eW4 b0 HX3 hx3 hz3 hn3
      by_cases hm : l.length ≤ i + j
      · have hk1 : k = l.length := by omega
        have t5 : (l.length : Int) ≤ (i : Int) + (j : Int) := by omega
        have t6 := HW.out
        by_cases hci : c0 = i
        · go_wp2_with (first | (go_at_call 48; go_must ((with_reducible refine (HOW.out _ (ext_trans HX4.out extA) _ (by have h9 := HSB.out _ (show Ext w _ from ext_trans HX4.out extA); simpa [hk1, hci] using h9)).mono ?_); rintro e w5 ⟨u5, rfl, ho5, hx5⟩; obtain ⟨a5, n5, c5, rfl⟩ := osl_slice ho5; have HX5 := Lib.hid (show Ext w w5 from ext_trans (ext_trans HX4.out extA) hx5); have HV5 := Lib.hid (RSl.more gNo (fun t ht _ => Nat.le_trans HX4.out.size ht) (osl_rsl gNo ho5 (fun _ h _ => h) (fun _ h => h))))))
          refine bodyPost_ret (v := .tuple #[.slice a5 n5 c5, .int .i64 0]) (by simp [results, Try.results16, go_sem]) rfl ⟨_, by rw [HE.out], ?_, ext_trans HX5.out extA⟩
          rw [HV.out]
          exact HV5.out
        · go_wp2_with (first | (go_at_call 48; go_must ((with_reducible refine (HOW.out _ (ext_trans HX4.out extA) _ (by have h9 := HSB.out _ (show Ext w _ from ext_trans HX4.out extA); simpa [hk1, hci] using h9)).mono ?_); rintro e w5 ⟨u5, rfl, ho5, hx5⟩; obtain ⟨a5, n5, c5, rfl⟩ := osl_slice ho5; have HX5 := Lib.hid (show Ext w w5 from ext_trans (ext_trans HX4.out extA) hx5); have HV5 := Lib.hid (RSl.more gNo (fun t ht _ => Nat.le_trans HX4.out.size ht) (osl_rsl gNo ho5 (fun _ h _ => h) (fun _ h => h))))))
          refine bodyPost_ret (v := .tuple #[.slice a5 n5 c5, .int .i64 0]) (by simp [results, Try.results16, go_sem]) rfl ⟨_, by rw [HE.out], ?_, ext_trans HX5.out extA⟩
          rw [HV.out]
          exact HV5.out
      · have hk1 : k = i + j := by omega
        have t5 : ¬ (l.length : Int) ≤ (i : Int) + (j : Int) := by omega
        have t6 := HW.out
        by_cases hci : c0 = i
        · exact absurd hn1 (by omega)
        · go_wp2_with (first | (go_at_call 48; go_must ((with_reducible refine (HOW.out _ (ext_trans HX4.out extA) _ (by have h9 := HSB.out _ (show Ext w _ from ext_trans HX4.out extA); simpa [hk1, hci] using h9)).mono ?_); rintro e w5 ⟨u5, rfl, ho5, hx5⟩; obtain ⟨a5, n5, c5, rfl⟩ := osl_slice ho5; have HX5 := Lib.hid (show Ext w w5 from ext_trans (ext_trans HX4.out extA) hx5); have HV5 := Lib.hid (RSl.more gNo (fun t ht _ => Nat.le_trans HX4.out.size ht) (osl_rsl gNo ho5 (fun _ h _ => h) (fun _ h => h))))))
          refine bodyPost_ret (v := .tuple #[.slice a5 n5 c5, .int .i64 0]) (by simp [results, Try.results16, go_sem]) rfl ⟨_, by rw [HE.out], ?_, ext_trans HX5.out extA⟩
          rw [HV.out]
          exact HV5.out
  · have HE := Lib.hid (show pullE l c m = checkLog l by unfold pullE; rw [if_pos hc1])
    have HNE := Lib.hid hc1
    have t1 : (checkLog l != 0) = true := by simpa using hc1
    clear hc1
    generalize checkLog l = er at *
    go_enter Try.func16, Try.ntmps16
    go_wp2_with (first | (go_at_call 20; go_must ((with_reducible refine (HCR.out _ extA).mono ?_); rintro e w3 ⟨rfl, hx3⟩; have hz3 := hx3.size; (try simp at hz3); have hn3 : w.heap.size < w3.heap.size := (by omega); have b0 := (hx3.cells (w.heap.size) 0 (by first | omega | (simp <;> omega))).trans (show _ = some (.slice a0 l.length c0) by first | (with_reducible assumption) | go_simp); have HX3 := Lib.hid (show Ext w w3 from ext_trans extA hx3))))
    go_ret2
    exact pull_err_of HE.out HNE.out HX3.out
end Go.Proofs.Ytiladkinndgeaaa
/- What must be in any case, of relays. -/
namespace Go.Proofs.Ytiladkinndgeaaa
open Go Go.RowKit Go.BigFrame Cp

theorem rb_e1 : postE [] noteN = 0 := by decide
theorem rb_b1 : postB [] noteN = true := by decide
theorem rb_v1 : postV [] noteN = [noteN] := by unfold postV; rw [if_pos rb_e1]; rfl
theorem rb_e2 : postE [noteN] noteN = 0 := by decide
theorem rb_b2 : postB [noteN] noteN = false := by decide
theorem rb_v2 : postV [noteN] noteN = [noteN] := (post_right rb_e2).2.2.2.2 rb_b2
theorem rb_p : pullE [noteN] 0 9 = 0 := by decide
theorem rb_pv : pullV [noteN] 0 9 = [noteN] := by unfold pullV; rw [if_pos rb_p]; rfl
theorem rb_c : checkLog [noteN] = 0 := by decide
def IsPostC (l : List No) (b : Bool) (w : World) (e : Ending) (w' : World) : Prop :=
  ∃ u, e = .returned (.tuple #[.agg #[u], .bool b, .int .i64 0]) ∧ RSl RNo 4 (fun j => w.heap.size ≤ j) w' u l ∧ Ext w w'
/-- a new note, its slices by name -/
def IsNoteS (w : World) (e : Ending) (w' : World) : Prop := ∃ (a : Option Addr) (n c : Nat) (b : Option Addr) (m d : Nat), e = .returned (.agg #[.int .i64 noteN.site, .int .i64 noteN.number, .slice a n c, .slice b m d]) ∧ RNo (fun k => w.heap.size ≤ k) w' [.int .i64 noteN.site, .int .i64 noteN.number, .slice a n c, .slice b m d] noteN ∧ Ext w w'
theorem noteN_any (w : World) : Calls Try.prog 38 #[] w (IsNoteS w) := by
  refine (note_any w).mono ?_
  rintro e w' ⟨v, u, rfl, hn, hx⟩
  have hn' := hn
  obtain ⟨v', u', he, _, _, hv, hu⟩ := hn'
  obtain ⟨a, n, c, rfl⟩ := hv.slice
  obtain ⟨b, m, d, rfl⟩ := hu.slice
  injection he with _ he
  injection he with _ he
  injection he with e1 he
  injection he with e2 _
  subst e1
  subst e2
  exact ⟨a, n, c, b, m, d, rfl, hn, hx⟩
def IsPullC (l : List No) (w : World) (e : Ending) (w' : World) : Prop := ∃ u, e = .returned (.tuple #[u, .int .i64 0]) ∧ RSl RNo 4 (fun j => w.heap.size ≤ j) w' u l ∧ Ext w w'
section
variable {F G : Nat → Prop} {w : World} {v : Value} {cs : List Value}
theorem rb_post1 (k : RNo G w cs noteN) : Calls Try.prog 15 #[.agg #[.slice none 0 0], .agg cs.toArray] w (IsPostC [noteN] true w) := by
  have h := post_any (F := fun _ => True) (l := []) (RSl.nil_ (a := none) (Nat.zero_le _)) k
  exact h.mono fun e w' ⟨u, he, hu, hx⟩ => ⟨u, by rw [he, rb_b1, rb_e1], by rw [rb_v1] at hu; exact hu, hx⟩
theorem rb_post2 (h : RSl RNo 4 F w v [noteN]) (k : RNo G w cs noteN) : Calls Try.prog 15 #[.agg #[v], .agg cs.toArray] w (IsPostC [noteN] false w) := by
  have h := post_any h k
  exact h.mono fun e w' ⟨u, he, hu, hx⟩ => ⟨u, by rw [he, rb_b2, rb_e2], by rw [rb_v2] at hu; exact hu, hx⟩
theorem rb_pull (h : RSl RNo 4 F w v [noteN]) : Calls Try.prog 16 #[.agg #[v], .int .i64 0, .int .i64 9] w (IsPullC [noteN] w) := by
  have h := pull_any (c := 0) (m := 9) h (i64_small (by simp) (by simp)) (i64_small (by simp) (by simp))
  exact h.mono fun e w' ⟨u, he, hu, hx⟩ => ⟨u, by rw [he, rb_p], by rw [rb_pv] at hu; exact hu, hx⟩
theorem rb_chk (h : RSl RNo 4 F w v [noteN]) : Calls Try.prog 20 #[.agg #[v]] w fun e w' => e = .returned (.int .i64 0) ∧ Ext w w' := by
  have h := checkRelayP_any h
  rw [rb_c] at h
  exact h
end
set_option maxRecDepth 100000 in
set_option maxHeartbeats 4000000 in
theorem relayBegun_any (w : World) : Calls Try.prog 19 #[] w fun e w' => e = .returned (.bool true) ∧ Ext w w' := by
  go_enter Try.func19, Try.ntmps19
  go_wp2_with (first | (go_at_call 38; go_must ((with_reducible refine (noteN_any _).mono ?_); rintro e w1 ⟨a1, n1, c1, b1, m1, d1, rfl, hn1, hx1⟩; have HN1 := Lib.hid hn1; clear hn1; have HX1 := Lib.hid (show Ext w w1 from ext_trans extA hx1))) | (go_at_call 15; go_must ((with_reducible refine (rb_post1 (gNo.ext HN1.out extA)).mono ?_); rintro e w2 ⟨u2, rfl, hu2, hx2⟩; obtain ⟨a2, n2, c2, rfl⟩ := hu2.slice; obtain rfl : n2 = 1 := hu2.len.1; have HV2 := Lib.hid hu2; have HX2 := Lib.hid (show Ext w w2 from ext_trans (ext_trans HX1.out extA) hx2); clear hu2)))
  refine wp_name (fun W1 eW1 => ?_)
  have e0 : W1.cell? ⟨w2.heap.size, 0, none⟩ = some (.slice a2 1 c2) := by rw [eW1]; go_simp
  have HW1 := Lib.hid (show Ext w W1 by rw [eW1]; exact ext_trans HX2.out extA)
  have HR1 := Lib.hid (show RSl RNo 4 (fun _ => True) W1 (.slice a2 1 c2) [noteN] from RSl.more gNo (fun _ _ _ => trivial) (HV2.out.ext gNo (by rw [eW1]; exact extA)))
  have hr1 : w2.heap.size < W1.heap.size := World.block_lt_of_cell? _ _ e0
  clear eW1 HN1 HX1 hx1 hx2 HX2 HV2
  generalize w2.heap.size = rb at *
  go_cut [4, 5, 6] from 9 (fun s4 s5 s6 wx => s5 = .bool false ∧ s6 = .int .i64 0 ∧ ∃ (ob : Nat) (a4 : Option Addr) (c4 : Nat), s4 = .pointer (some ⟨ob, 0, none⟩) ∧ wx.cell? ⟨ob, 0, none⟩ = some (.slice a4 1 c4) ∧ Hid (RSl RNo 4 (fun _ => True) wx (.slice a4 1 c4) [noteN]) ∧ Hid (Ext W1 wx))
  case first =>
    go_region_law (first
      | (go_simp; go_at_call 38; go_must ((with_reducible refine (noteN_any _).mono ?_); rintro e w3 ⟨a3, n3, c3, b3, m3, d3, rfl, hn3, hx3⟩; have HN3 := Lib.hid hn3; clear hn3; have HX3 := Lib.hid (show Ext W1 w3 from ext_trans extA hx3); have q0 := (HX3.out.cells rb 0 hr1).trans e0; have hq3 : rb < w3.heap.size := World.block_lt_of_cell? _ _ q0; (try (refine with_factG (T := w3.cell? ⟨W1.heap.size, 0, none⟩ = some (.slice none 0 0)) ?_ (fun mc => ?_); (focus (refine Eq.trans (hx3.cells (W1.heap.size) 0 ?_) ?_; (focus ((first | omega | (simp <;> omega)); done)); (focus ((first | (with_reducible assumption) | go_simp); done)); done)))); (try (refine with_factG (T := w3.frozen? ⟨W1.heap.size, 0, none⟩ = false) ?_ (fun mf => ?_); (focus (refine Eq.trans (hx3.frz (W1.heap.size) 0 ?_) ?_; (focus ((first | omega | (simp <;> omega)); done)); (focus ((first | (with_reducible assumption) | go_simp); done)); done)))); (try (refine with_factG (T := W1.heap.size < w3.heap.size) ?_ (fun ml => ?_); (focus (first | omega | (have h9 := World.block_lt_of_cell? _ _ mc; exact h9)))))))
      | (go_simp; go_at_call 15; go_must ((with_reducible refine (rb_post2 (HR1.out.ext gNo (ext_trans HX3.out extA)) (gNo.ext HN3.out extA)).mono ?_); rintro e w4 ⟨u4, rfl, hu4, hx4⟩; obtain ⟨a4, n4, c4, rfl⟩ := hu4.slice; obtain rfl : n4 = 1 := hu4.len.1; have HV4 := Lib.hid hu4; have HX4 := Lib.hid (show Ext W1 w4 from ext_trans (ext_trans HX3.out extA) hx4); clear hu4; have p0 := (HX4.out.cells rb 0 hr1).trans e0; have hp4 : rb < w4.heap.size := World.block_lt_of_cell? _ _ p0; (try (refine with_factG (T := w4.cell? ⟨W1.heap.size, 0, none⟩ = some (.slice none 0 0)) ?_ (fun nc => ?_); (focus (refine Eq.trans (hx4.cells (W1.heap.size) 0 ?_) ?_; (focus ((first | omega | (simp <;> omega)); done)); (focus ((first | (with_reducible assumption) | go_simp); done)); done)))); (try (refine with_factG (T := w4.frozen? ⟨W1.heap.size, 0, none⟩ = false) ?_ (fun nf => ?_); (focus (refine Eq.trans (hx4.frz (W1.heap.size) 0 ?_) ?_; (focus ((first | omega | (simp <;> omega)); done)); (focus ((first | (with_reducible assumption) | go_simp); done)); done)))); (try (refine with_factG (T := W1.heap.size < w4.heap.size) ?_ (fun nl => ?_); (focus (first | omega | (have h9 := World.block_lt_of_cell? _ _ nc; exact h9))))); (try (refine with_factG (T := w4.cell? ⟨w3.heap.size, 0, none⟩ = some (.slice none 0 0)) ?_ (fun kc => ?_); (focus (refine Eq.trans (hx4.cells (w3.heap.size) 0 ?_) ?_; (focus ((first | omega | (simp <;> omega)); done)); (focus ((first | (with_reducible assumption) | go_simp); done)); done)))); (try (refine with_factG (T := w4.frozen? ⟨w3.heap.size, 0, none⟩ = false) ?_ (fun kf => ?_); (focus (refine Eq.trans (hx4.frz (w3.heap.size) 0 ?_) ?_; (focus ((first | omega | (simp <;> omega)); done)); (focus ((first | (with_reducible assumption) | go_simp); done)); done)))); (try (refine with_factG (T := w3.heap.size < w4.heap.size) ?_ (fun kl => ?_); (focus (first | omega | (have h9 := World.block_lt_of_cell? _ _ kc; exact h9))))))))
    all_goals (go_wp2_with fail; go_meet)
    all_goals
      have hX4 := HX4.out
      have hs3 := HX3.out.size
      refine ⟨rfl, rfl, _, a4, c4, rfl, by first | (with_reducible assumption) | go_simp, ?_, Lib.hid extA⟩
      first
        | exact Lib.hid (RSl.more gNo (fun _ _ _ => trivial) (RSl.keep gNo (keeps_set keeps_refl (by intro _ h; have h' := h; first | (simp at h'; done) | (simp at h'; omega) | omega) _) HV4.out))
        | exact Lib.hid (RSl.more gNo (fun _ _ _ => trivial) (RSl.ext gNo HV4.out extA))
  case rest =>
    obtain ⟨rfl, rfl, ob, a4, c4, rfl, y0, HR2, HX3⟩ := hcut
    have y1 := (HX3.out.cells rb 0 hr1).trans e0
    have ho1 : ob < wc.heap.size := World.block_lt_of_cell? _ _ y0
    have ho2 : rb < wc.heap.size := World.block_lt_of_cell? _ _ y1
    have HXW := Lib.hid (ext_trans HW1.out HX3.out)
    go_wp2_with (first | (go_at_call 16; go_must ((with_reducible refine (rb_pull (HR1.out.ext gNo (ext_trans HX3.out extA))).mono ?_); rintro e w5 ⟨u5, rfl, hu5, hx5⟩; obtain ⟨a5, n5, c5, rfl⟩ := hu5.slice; obtain rfl : n5 = 1 := hu5.len.1; have HV5 := Lib.hid hu5; have hz5 := hx5.size; (try simp at hz5); have ya5 := (hx5.cells rb 0 (by first | omega | (simp <;> omega))).trans (show _ = some (.slice a2 1 c2) by first | (with_reducible assumption) | go_simp); have yb5 := (hx5.cells ob 0 (by first | omega | (simp <;> omega))).trans (show _ = some (.slice a4 1 c4) by first | (with_reducible assumption) | go_simp); have hra5 : rb < w5.heap.size := (by omega); have hrb5 : ob < w5.heap.size := (by omega); have HX5 := Lib.hid (show Ext wc w5 from ext_trans (extA) hx5); clear hu5)) | (go_at_call 20; go_must ((with_reducible refine (rb_chk (HR1.out.ext gNo (ext_trans HX3.out (ext_trans HX5.out extA)))).mono ?_); rintro e w6 ⟨rfl, hx6⟩; have hz6 := hx6.size; (try simp at hz6); have ya6 := (hx6.cells rb 0 (by first | omega | (simp <;> omega))).trans (show _ = some (.slice a2 1 c2) by first | (with_reducible assumption) | go_simp); have yb6 := (hx6.cells ob 0 (by first | omega | (simp <;> omega))).trans (show _ = some (.slice a4 1 c4) by first | (with_reducible assumption) | go_simp); have hra6 : rb < w6.heap.size := (by omega); have hrb6 : ob < w6.heap.size := (by omega); have HX6 := Lib.hid (show Ext wc w6 from ext_trans (ext_trans HX5.out extA) hx6); have HX65 := Lib.hid (show Ext w5 w6 from ext_trans extA hx6))) | (go_at_call 21; ((with_reducible refine (sameNotes_any (HR2.out.ext gNo (ext_trans HX6.out extA)) (HR1.out.ext gNo (ext_trans HX3.out (ext_trans HX6.out extA)))).mono ?_); rintro e w7 ⟨rfl, hx7⟩; have hz7 := hx7.size; (try simp at hz7); have HX7 := Lib.hid (show Ext wc w7 from ext_trans (ext_trans HX6.out extA) hx7); have HX75 := Lib.hid (show Ext w5 w7 from ext_trans (ext_trans HX65.out extA) hx7); clear HR2)) | (go_at_call 38; go_must ((with_reducible refine (noteN_any _).mono ?_); rintro e w8 ⟨a8, n8, c8, b8, m8, d8, rfl, hn8, hx8⟩; have HN8 := Lib.hid hn8; clear hn8; have hz8 := hx8.size; (try simp at hz8); have HX8 := Lib.hid (show Ext wc w8 from ext_trans (ext_trans HX7.out extA) hx8); have HX85 := Lib.hid (show Ext w5 w8 from ext_trans (ext_trans HX75.out extA) hx8))) | (go_at_call 21; go_must ((with_reducible refine (sameNotes_any (HV5.out.ext gNo (ext_trans HX85.out extA)) (rd_one (b := w8.heap.size) rfl (rangeAt4G (by first | (with_reducible assumption) | go_simp) (by first | (with_reducible assumption) | go_simp) (by first | (with_reducible assumption) | go_simp) (by first | (with_reducible assumption) | go_simp)) (gNo.ext (gNo.all HN8.out) extA) trivial (by first | omega | (simp <;> omega)) (Nat.le_refl _) (by unfold maxLen; omega))).mono ?_); rintro e w9 ⟨rfl, hx9⟩; have HX9 := Lib.hid (show Ext wc w9 from ext_trans (ext_trans HX8.out extA) hx9))))
    go_ret
    exact ⟨rfl, ext_trans HXW.out (ext_trans HX9.out extA)⟩
end Go.Proofs.Ytiladkinndgeaaa
