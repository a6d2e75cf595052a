/- What the walk hands on: a sign that goes, a sign that comes. -/
import Derived.Test.YthkhkbjkbpgaoaaD7
set_option linter.unusedVariables false
set_option linter.unusedSimpArgs false
namespace Go.Proofs.Ythkhkbjkbpgaoaa
open Go Go.RowKit Go.BigFrame Cp

theorem info_edit : (Try.prog.info? 32).map (fun i => (i.zero, i.size, i.bytes)) = some (some (.agg #[.int .i64 0, .int .i64 0, .int .i64 0, .string ⟨#[]⟩]), 4, 40) := by kernel_rfl
theorem lf_ed : ∀ F G w w' cs (x : Edt), REd F w cs x → REd G w' cs x := fun _ _ _ _ _ _ h => h
theorem one_ed : ∀ F w cs (y : Edt), REd F w cs y → ∀ u ∈ cs, u.oneCell' = true := by
  rintro F w cs y ⟨s, rfl, _, _, _, hx, _⟩ u hu
  subst hx
  simp at hu
  rcases hu with rfl | rfl | rfl | rfl <;> rfl
theorem rangeAt4 {w : World} {b o : Nat} {x y z u : Value} (h0 : w.cell? ⟨b, o, none⟩ = some x) (h1 : w.cell? ⟨b, o + 1, none⟩ = some y) (h2 : w.cell? ⟨b, o + 2, none⟩ = some z) (h3 : w.cell? ⟨b, o + 3, none⟩ = some u) : w.rangeAt b o [x, y, z, u] := by
  intro j v hv
  match j, hv with
  | 0, hv => have : x = v := by simpa using hv
             subst this; exact h0
  | 1, hv => have : y = v := by simpa using hv
             subst this; exact h1
  | 2, hv => have : z = v := by simpa using hv
             subst this; exact h2
  | 3, hv => have : u = v := by simpa using hv
             subst this; exact h3
/-- an edit, as it lies -/
theorem red_mk {F : Nat → Prop} {W : World} {a b c : Int} {t : Tx} (ha : I64 a) (hb : I64 b) (hc : I64 c) (ht : t.length ≤ 140737488351232) : REd F W [.int .i64 a, .int .i64 b, .int .i64 c, .string ⟨t.toArray⟩] ⟨a, b, c, t⟩ := ⟨_, rfl, ha, hb, hc, rfl, ht⟩
/-- the edits so far, in a variable that is shared -/
def IsAcc (w0 w : World) (O base : Nat) (v : Value) (l : List Edt) (e : Ending) (w' : World) : Prop :=
  e = .returned (.tuple #[]) ∧ Ext w0 w' ∧ Keeps (fun b => b ≠ O ∧ some b ≠ v.ownBlock) w w' ∧
    ∃ v', w'.cell? ⟨O, 0, none⟩ = some v' ∧ w'.frozen? ⟨O, 0, none⟩ = false ∧ OSl REd 4 32 base (fun _ => True) w' v' l ∧ (v'.ownBlock = v.ownBlock ∨ ∃ g, v'.ownBlock = some g ∧ w.heap.size ≤ g)
/-- an edit of a slice of one's own, where it lies -/
theorem acc_at {base : Nat} {w : World} {a : Option Addr} {n c : Nat} {l : List Edt} (h : OSl REd 4 32 base (fun _ => True) w (.slice a n c) l) {i : Nat} {x : Edt} (hx : l[i]? = some x) :
    ∃ g, n = l.length ∧ a = some ⟨g, 0, none⟩ ∧ base ≤ g ∧ g < w.heap.size ∧ I64 x.kind ∧ I64 x.at_ ∧ I64 x.many ∧ x.text.length ≤ 140737488351232 ∧ w.cell? ⟨g, i * 4, none⟩ = some (.int .i64 x.kind) ∧ w.cell? ⟨g, i * 4 + 1, none⟩ = some (.int .i64 x.at_) ∧
      w.cell? ⟨g, i * 4 + 2, none⟩ = some (.int .i64 x.many) ∧ w.cell? ⟨g, i * 4 + 3, none⟩ = some (.string ⟨x.text.toArray⟩) ∧ ∀ o, w.frozen? ⟨g, o, none⟩ = false := by
  obtain ⟨hi, _⟩ := List.getElem?_eq_some_iff.1 hx
  obtain ⟨g, y, cs, e1, e2, e3, e4, e5, _, hr, ⟨s, rfl, k1, k2, k3, rfl, k5⟩, hf⟩ := osl_at h hi
  rw [hx] at e5
  have : x = y := by simpa using e5
  subst this
  exact ⟨g, e1, e2, e3, e4, k1, k2, k3, k5, by simpa using hr 0 _ rfl, hr 1 _ rfl, hr 2 _ rfl, hr 3 _ rfl, hf⟩
theorem own_some {g n c : Nat} : (Value.slice (some ⟨g, 0, none⟩) n c).ownBlock = some g := by simp [Value.ownBlock]

set_option maxRecDepth 100000 in
set_option maxHeartbeats 4000000 in
theorem takes_any {w0 w : World} {O base : Nat} {v : Value} {out : List Edt} {k c : Int} (hw0 : Ext w0 w) (hO0 : w0.heap.size ≤ O) (hOb : O < base) (hbase : base ≤ w.heap.size) (hc : w.cell? ⟨O, 0, none⟩ = some v) (hf : w.frozen? ⟨O, 0, none⟩ = false)
    (hown : OSl REd 4 32 base (fun _ => True) w v out) (hk : 0 ≤ k ∧ k ≤ 1000) (hl : out.length ≤ 1000) (hm : ∀ e ∈ out, 0 ≤ e.many ∧ e.many ≤ 1000) :
    Calls Try.prog 99 #[.int .i64 k, .int .u8 c, .pointer (some ⟨O, 0, none⟩)] w (IsAcc w0 w O base v (takeStep out k)) := by
  obtain ⟨i0, hi0, hz0, hz1, hz2⟩ := info_parts info_edit
  have HI := Lib.hid hi0
  have HZ0 := Lib.hid hz0
  have HZ1 := Lib.hid hz1
  have HZ2 := Lib.hid hz2
  clear hi0 hz0 hz1 hz2
  obtain ⟨k1, k2⟩ := hk
  have hOw : O < w.heap.size := by omega
  have HOL := Lib.hid (osl_lt hown)
  have HW0 := Lib.hid hw0
  have hOwn := Lib.hid hown
  obtain ⟨a, n, cp, rfl⟩ := osl_slice hown
  obtain ⟨hn, hcap1, hcap2⟩ := osl_len hown
  have HNO := Lib.hid (show some O ≠ (Value.slice a n cp).ownBlock from fun e => by have := (HOL.out O e.symm).1; omega)
  have HR := Lib.hid (fun (W : World) => red_mk (F := fun _ => False) (W := W) (a := 2) (b := k) (c := 0) (t := []) (by unfold I64; omega) (by unfold I64; omega) (by unfold I64; omega) (by simp))
  clear hw0
  rcases List.eq_nil_or_concat out with rfl | ⟨q, e, rfl⟩
  · have HT : Hid (takeStep [] k = [⟨2, k, 1, []⟩]) := rfl
    obtain rfl : n = 0 := hn
    clear hown hm
    rw [HT.out]
    go_enter Try.func99, Try.ntmps99
    go_wp2_with (at_builtin; go_must (refine wpList_app1 gEd rfl (.tmp 20) (.tmp 23) 22 rfl base 32 i0 _ 4 40 Try.underlying22 HI.out HZ0.out HZ1.out HZ2.out rfl (by omega) (F := fun _ => True) (G := fun _ => False) (.slice a 0 cp) ([] : List Edt) rfl (osl_ext gEd hOwn.out (ext_alloc (ext_refl _) _)) w.heap.size 0 1 [.int .i64 2, .int .i64 k, .int .i64 0, .string ⟨#[]⟩] ⟨2, k, 0, []⟩ rfl rfl (rangeAt4 (by go_simp) (by go_simp) (by go_simp) (by go_simp)) (one_ed _ w _ _ (HR.out w)) (HR.out _) (fun j hj _ => hj.elim) (by first | (simp [maxLen]; done) | (simp only [maxLen, List.length_append, List.length_cons, List.length_nil]; omega)) (by first | (simp; done) | (simp only [List.length_append, List.length_cons, List.length_nil]; omega)) (by simp; omega) ?_; intro v9 w9 hown9 hg9 hat9; obtain ⟨a9, n9, c9, rfl⟩ := osl_slice hown9; obtain ⟨g9, hn9e, rfl, hb9, hs9, _, _, _, _, y0, y1, y2, y3, fr9⟩ := acc_at hown9 (i := 0) (x := ⟨2, k, 0, []⟩) (by simp); obtain rfl : n9 = 1 := (by rw [hn9e]; simp); clear hn9e; have o9 := (World.cell?_of_block (a := ⟨O, 0, none⟩) (hg9.block O (by simp; omega) HNO.out)).trans (show _ = some (.slice a 0 cp) by go_simp); have of9 := (World.frozen?_of_block (a := ⟨O, 0, none⟩) (hg9.block O (by simp; omega) HNO.out)).trans (show _ = false by go_simp); have f9 := fr9 (2); have HY := Lib.hid hown9; have HG := Lib.hid hg9; have HAT := Lib.hid hat9; have hn9 : ¬ g9 = O := (by omega); have hn9' : ¬ O = g9 := (by omega); have hz9 := hg9.size; clear hown9 hg9 hat9 fr9; (try simp at y2)))
    go_end0
    refine ⟨rfl, ext_set (ext_set (ext_grown (ext_alloc HW0.out _) HG.out (fun j hj => by have := (HOL.out j hj).1; omega)) hO0 _) (show w0.heap.size ≤ g9 by omega) _, keeps_set (keeps_set ⟨Nat.le_trans (by simp) HG.out.size, fun j hj hlt => (HG.out.block j (by simp; omega) hj.2).trans (Below.heap_alloc w _ j hlt)⟩ (fun _ h => h.1 rfl) _) (fun hlt h => by rcases HAT.out with h1 | h1; (· exact h.2 (h1 ▸ own_some.symm)); (· rw [own_some] at h1; injection h1 with h1; simp at h1; have hlt2 : g9 < w.heap.size := hlt; omega)) _, .slice (some ⟨g9, 0, none⟩) 1 c9, by go_simp, by go_simp, ?_, ?_⟩
    · have h9 := osl_put gEd (osl_lset lf_ed (p := ⟨O, 0, none⟩) (fun e => hn9' e) HY.out (.slice (some ⟨g9, 0, none⟩) 1 c9)) (i := 0) (j := 2) (by simp) (by omega) (u := .int .i64 1) (x := ⟨2, k, 1, []⟩) (fun G W cs y hy hr => by
        simp at hy
        subst hy
        obtain ⟨s, rfl, h1, h2, h3, h4⟩ := hr
        exact ⟨s, rfl, h1, h2, (show -9223372036854775808 ≤ (1 : Int) ∧ (1 : Int) ≤ 9223372036854775807 by omega), h4⟩)
      simpa using h9
    · rcases HAT.out with h1 | h1
      · exact .inl h1
      · exact .inr ⟨_, h1, by simp⟩
  · rw [List.concat_eq_append] at *
    have hel : (q ++ [e])[q.length]? = some e := by simp
    obtain ⟨g, -, rfl, hg1, hg2, ik, ia, im, it, z0, z1, z2, z3, hfr⟩ := acc_at hown hel
    obtain ⟨m1, m2⟩ := hm e (by simp)
    have hq : (q ++ [e]).length = q.length + 1 := by simp
    obtain rfl : n = q.length + 1 := hn.trans hq
    have HQ := Lib.hid hq
    rw [hq] at hl
    have tq : decide ((q.length : Int) < 0) = false := decide_eq_false (by omega)
    have f2 := hfr (q.length * 4 + 2)
    by_cases h0 : e.at_ = k
    · have HT := Lib.hid (show takeStep (q ++ [e]) k = q ++ [{ e with many := e.many + 1 }] by simp [takeStep, h0])
      have t0 : (e.at_ != k) = false := by simpa using h0
      have HPUT := Lib.hid (osl_put gEd hOwn.out (i := q.length) (j := 2) (by simp) (by omega) (u := .int .i64 (e.many + 1)) (x := { e with many := e.many + 1 }) (fun G W cs y hy hr => by
        rw [hel] at hy
        have : e = y := by simpa using hy
        subst this
        obtain ⟨s, rfl, h1, h2, h3, h4⟩ := hr
        exact ⟨s, rfl, h1, h2, (show -9223372036854775808 ≤ e.many + 1 ∧ e.many + 1 ≤ 9223372036854775807 by omega), h4⟩))
      clear h0 hown hm hel hq hfr hn
      rw [HT.out]
      go_enter Try.func99, Try.ntmps99
      go_wp2_with fail
      go_end0
      refine ⟨rfl, ext_set HW0.out (show w0.heap.size ≤ g by omega) _, keeps_set keeps_refl (fun _ h => h.2 rfl) _, _, by go_simp, by go_simp, ?_, .inl rfl⟩
      have h9 := HPUT.out
      simp only [List.set_append_right, Nat.le_refl, Nat.sub_self, List.set_cons_zero] at h9
      exact h9
    · have HT := Lib.hid (show takeStep (q ++ [e]) k = (q ++ [e]) ++ [⟨2, k, 1, []⟩] by simp [takeStep, h0])
      have t0 : (e.at_ != k) = true := by simpa using h0
      clear h0 hown hm hel hfr hn hq
      rw [HT.out]
      go_enter Try.func99, Try.ntmps99
      go_wp2_with (at_builtin; go_must (refine wpList_app1 gEd rfl (.tmp 20) (.tmp 23) 22 rfl base 32 i0 _ 4 40 Try.underlying22 HI.out HZ0.out HZ1.out HZ2.out rfl (by omega) (F := fun _ => True) (G := fun _ => False) (.slice (some ⟨g, 0, none⟩) (q.length + 1) cp) (q ++ [e]) rfl (osl_ext gEd hOwn.out (ext_alloc (ext_refl _) _)) w.heap.size 0 1 [.int .i64 2, .int .i64 k, .int .i64 0, .string ⟨#[]⟩] ⟨2, k, 0, []⟩ rfl rfl (rangeAt4 (by go_simp) (by go_simp) (by go_simp) (by go_simp)) (one_ed _ w _ _ (HR.out w)) (HR.out _) (fun j hj _ => hj.elim) (by first | (simp [maxLen]; done) | (simp only [maxLen, List.length_append, List.length_cons, List.length_nil]; omega)) (by first | (simp; done) | (simp only [List.length_append, List.length_cons, List.length_nil]; omega)) (by simp; omega) ?_; intro v9 w9 hown9 hg9 hat9; obtain ⟨a9, n9, c9, rfl⟩ := osl_slice hown9; obtain ⟨g9, hn9e, rfl, hb9, hs9, _, _, _, _, y0, y1, y2, y3, fr9⟩ := acc_at hown9 (i := (q.length + 1)) (x := ⟨2, k, 0, []⟩) (by simp); obtain rfl : n9 = q.length + 1 + 1 := (by rw [hn9e]; simp); clear hn9e; have o9 := (World.cell?_of_block (a := ⟨O, 0, none⟩) (hg9.block O (by simp; omega) HNO.out)).trans (show _ = some (.slice (some ⟨g, 0, none⟩) (q.length + 1) cp) by go_simp); have of9 := (World.frozen?_of_block (a := ⟨O, 0, none⟩) (hg9.block O (by simp; omega) HNO.out)).trans (show _ = false by go_simp); have f9 := fr9 ((q.length + 1) * 4 + 2); have HY := Lib.hid hown9; have HG := Lib.hid hg9; have HAT := Lib.hid hat9; have hn9 : ¬ g9 = O := (by omega); have hn9' : ¬ O = g9 := (by omega); have hz9 := hg9.size; clear hown9 hg9 hat9 fr9; skip))
      go_end0
      refine ⟨rfl, ext_set (ext_set (ext_grown (ext_alloc HW0.out _) HG.out (fun j hj => by have := (HOL.out j hj).1; omega)) hO0 _) (show w0.heap.size ≤ g9 by omega) _, keeps_set (keeps_set ⟨Nat.le_trans (by simp) HG.out.size, fun j hj hlt => (HG.out.block j (by simp; omega) hj.2).trans (Below.heap_alloc w _ j hlt)⟩ (fun _ h => h.1 rfl) _) (fun hlt h => by rcases HAT.out with h1 | h1; (· exact h.2 (h1 ▸ own_some.symm)); (· rw [own_some] at h1; injection h1 with h1; simp at h1; have hlt2 : g9 < w.heap.size := hlt; omega)) _, .slice (some ⟨g9, 0, none⟩) (q.length + 1 + 1) c9, by go_simp, by go_simp, ?_, ?_⟩
      · have h9 := osl_put gEd (osl_lset lf_ed (p := ⟨O, 0, none⟩) (fun e => hn9' e) HY.out (.slice (some ⟨g9, 0, none⟩) (q.length + 1 + 1) c9)) (i := (q.length + 1)) (j := 2) (by simp) (by omega) (u := .int .i64 1) (x := ⟨2, k, 1, []⟩) (fun G W cs y hy hr => by
          simp at hy
          subst hy
          obtain ⟨s, rfl, h1, h2, h3, h4⟩ := hr
          exact ⟨s, rfl, h1, h2, (show -9223372036854775808 ≤ (1 : Int) ∧ (1 : Int) ≤ 9223372036854775807 by omega), h4⟩)
        simpa using h9
      · rcases HAT.out with h1 | h1
        · exact .inl h1
        · exact .inr ⟨_, h1, by simp⟩
end Go.Proofs.Ythkhkbjkbpgaoaa
