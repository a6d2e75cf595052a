/- A note of one's own: nothing of it is shared. -/
import Derived.Test.YtiladkinndgeaaaQe4d63bfa69
import Derived.Test.YtiladkinndgeaaaQ0e382b0d01
import Derived.Test.YtiladkinndgeaaaQ65e273ef9d
import Derived.Test.YtiladkinndgeaaaQ7a04ac2d17
import Derived.Deep.RegionLaw
import Derived.Deep.Cut
import Derived.Deep.CutRange
import Derived.Test.YtiladkinndgeaaaQf69f251b3b
set_option linter.unusedVariables false
set_option linter.unusedSimpArgs false
namespace Go.Proofs.Ytiladkinndgeaaa
open Go Go.RowKit Go.BigFrame Cp

theorem info_deG : (Try.prog.info? 60).map (fun i => (i.zero, i.size, i.bytes)) = some (some (.agg #[.int .i64 0, .slice none 0 0, .int .i64 0, .string ⟨#[]⟩, .slice none 0 0, .int .i64 0, .int .i64 0]), 7, 96) := by kernel_rfl
theorem one_deG : ∀ F w cs (y : De), RDe F w cs y → ∀ u ∈ cs, u.oneCell' = true := by
  rintro F w cs y ⟨v, s, u, rfl, _, h1, _, h3, h4, _, _⟩ x hx
  obtain ⟨a1, n1, c1, rfl⟩ := h1.slice
  obtain ⟨a2, n2, c2, rfl⟩ := h4.slice
  obtain ⟨rfl, _⟩ := h3
  simp at hx
  rcases hx with rfl | rfl | rfl | rfl | rfl | rfl | rfl <;> rfl
theorem deG_len {a : Nat} (h : a ≤ 1000) : a + 1 ≤ maxLen := Nat.le_trans (by omega : a + 1 ≤ 1001) (by unfold maxLen; decide)
theorem deG_byt {a : Nat} (h : a ≤ 1000) : (a + 1) * 96 ≤ 140737488355328 := by omega
theorem with_factG {T G : Prop} (h : T) (k : T → G) : G := k h
theorem cell_setG {W : World} {k i b o : Nat} {v x : Value} (hne : k ≠ b) (h : W.cell? ⟨b, o, none⟩ = some x) : (W.setCell ⟨k, i, none⟩ v).cell? ⟨b, o, none⟩ = some x :=
  (World.cell?_setCell_other W _ _ _ (fun e => hne (by injection e))).trans h
theorem rangeAt7G {w : World} {b : Nat} {x0 x1 x2 x3 x4 x5 x6 : Value} (h0 : w.cell? ⟨b, 0, none⟩ = some x0) (h1 : w.cell? ⟨b, 1, none⟩ = some x1) (h2 : w.cell? ⟨b, 2, none⟩ = some x2) (h3 : w.cell? ⟨b, 3, none⟩ = some x3)
    (h4 : w.cell? ⟨b, 4, none⟩ = some x4) (h5 : w.cell? ⟨b, 5, none⟩ = some x5) (h6 : w.cell? ⟨b, 6, none⟩ = some x6) : w.rangeAt b 0 [x0, x1, x2, x3, x4, x5, x6] := by
  intro j v hv
  match j, hv with
  | 0, hv => injection hv with hv; subst hv; exact h0
  | 1, hv => injection hv with hv; subst hv; exact h1
  | 2, hv => injection hv with hv; subst hv; exact h2
  | 3, hv => injection hv with hv; subst hv; exact h3
  | 4, hv => injection hv with hv; subst hv; exact h4
  | 5, hv => injection hv with hv; subst hv; exact h5
  | 6, hv => injection hv with hv; subst hv; exact h6
  | j + 7, hv => simp at hv
theorem no_ownG {B b : Nat} {v : Value} (hv : ∀ k, v.ownBlock = some k → B ≤ k) (hb : b < B) (h : B ≤ b ∨ some b = v.ownBlock) : False := by
  rcases h with h | h
  · omega
  · have := hv b h.symm; omega
theorem take_snocG {α : Type} {l : List α} {k : Nat} {a : α} (h : l[k]? = some a) : l.take (k + 1) = l.take k ++ [a] := by
  obtain ⟨h1, h2⟩ := List.getElem?_eq_some_iff.1 h
  rw [List.take_succ_eq_append_getElem h1, h2]
theorem c_pathG {F : Nat → Prop} {w : World} {v : Value} {p : List Stp} {c x : Int} (h : RMk F w [v, .int .i64 x] (p, c)) : RSl RStp 2 F w v p := by
  obtain ⟨u, e, h1, _⟩ := h
  injection e with e1 _
  subst e1
  exact h1
/-- behind the note's first part: its box, the deeds' own, the result's -/
def Mid1 (B ob : Nat) (st nu : Int) (v u : Value) (l : List Int) (wc : World) : Prop :=
  wc.cell? ⟨ob, 0, none⟩ = some (.int .i64 st) ∧ wc.cell? ⟨ob, 1, none⟩ = some (.int .i64 nu) ∧ wc.cell? ⟨ob, 2, none⟩ = some v ∧ wc.cell? ⟨ob, 3, none⟩ = some (.slice none 0 0) ∧ (∀ o, o < 4 → wc.frozen? ⟨ob, o, none⟩ = false) ∧
  B + 1 < ob ∧ ob < wc.heap.size ∧ wc.cell? ⟨B, 3, none⟩ = some u ∧ (∀ o, o < 4 → wc.frozen? ⟨B + 1, o, none⟩ = false) ∧
  wc.cell? ⟨B + 1, 0, none⟩ = some (.int .i64 0) ∧ wc.cell? ⟨B + 1, 1, none⟩ = some (.int .i64 0) ∧ wc.cell? ⟨B + 1, 2, none⟩ = some (.slice none 0 0) ∧ wc.cell? ⟨B + 1, 3, none⟩ = some (.slice none 0 0) ∧
  RSl RInt 1 (fun j => B + 1 < j ∧ j ≠ ob) wc v l
/-- a note, all in new memory -/
def IsNoW (n : No) (w : World) (e : Ending) (w' : World) : Prop := ∃ cs, e = .returned (.agg cs.toArray) ∧ RNo (fun k => w.heap.size ≤ k) w' cs n ∧ Ext w w'
set_option maxRecDepth 100000 in
set_option maxHeartbeats 4000000 in
theorem ownNote_any {F : Nat → Prop} {w : World} {cs : List Value} {n : No} (h : RNo F w cs n) (hn : n.needs.length ≤ 1000) (hd : n.deeds.length ≤ 1000) (hp : ∀ d ∈ n.deeds, d.run.1.1.length ≤ 8000000000000 ∧ d.mark.1.length ≤ 8000000000000) :
    Calls Try.prog 66 #[.agg cs.toArray] w (IsNoW n w) := by
  obtain ⟨v, u, rfl, i1, i2, h1, h2⟩ := h
  obtain ⟨st, nu, l, q⟩ := n
  simp only at i1 i2 h1 h2 hn hd hp
  have HI1 := Lib.hid i1
  have HI2 := Lib.hid i2
  have HP := Lib.hid hp
  have HCL := Lib.hid (fun (W : World) (hx : Ext w W) => cloneInts_any (h1.ext gInt hx) (by omega))
  have HL := Lib.hid (fun (W : World) (hx : Ext w W) => h2.ext gDe hx)
  obtain ⟨a0, n0, c0, rfl⟩ := h1.slice
  obtain ⟨a1, n1, c1, rfl⟩ := h2.slice
  obtain rfl : n1 = q.length := h2.len.1
  obtain ⟨j0, hj0, hz0, hz1', hz2⟩ := info_parts info_deG
  have HJ := Lib.hid hj0
  have HZ0 := Lib.hid hz0
  have HZ1 := Lib.hid hz1'
  have HZ2 := Lib.hid hz2
  clear h1 h2 hp hj0 hz0 hz1' hz2 i1 i2
  go_enter Try.func66, Try.ntmps66
  go_wp2_with fail
  go_cut [3] from 6 (fun s wc => ∃ (ob : Nat) (a2 : Option Addr) (n2 c2 : Nat), s = .pointer (some ⟨ob, 0, none⟩) ∧ Hid (Mid1 w.heap.size ob st nu (.slice a2 n2 c2) (.slice a1 q.length c1) l wc) ∧ Hid (Ext w wc))
  case first =>
    go_region_held3 (fun W => W.cell? ⟨w.heap.size, 0, none⟩ = some (.int .i64 st) ∧ W.cell? ⟨w.heap.size, 1, none⟩ = some (.int .i64 nu) ∧ W.cell? ⟨w.heap.size, 2, none⟩ = some (.slice a0 n0 c0))
      (first | (refine ⟨?_, ?_, ?_⟩ <;> (with_reducible assumption)) | (refine ⟨?_, ?_, ?_⟩ <;> (repeat (with_reducible refine cell_setG (by omega) ?_)) <;> (with_reducible assumption)) | go_keep | (refine ⟨?_, ?_, ?_⟩ <;> (rw [hx1.cells _ _ (by first | omega | (simp <;> omega))]; first | (with_reducible assumption) | go_simp)))
      (first | (go_at_call 77; go_must ((with_reducible refine (HCL.out _ extA).mono ?_); rintro e w1 ⟨v1, rfl, hv1, hx1⟩; obtain ⟨a2, n2, c2, rfl⟩ := osl_slice hv1; have HV1 := Lib.hid hv1; have hz1 := hx1.size; (try simp at hz1); have hb1 : w.heap.size < w1.heap.size := (by omega); have hb2 : w.heap.size + 1 < w1.heap.size := (by omega); have q0 := (hx1.cells (w.heap.size) (0) (by first | omega | (simp <;> omega))).trans (show _ = some (.int .i64 st) by first | (with_reducible assumption) | go_simp); have q1 := (hx1.cells (w.heap.size) (1) (by first | omega | (simp <;> omega))).trans (show _ = some (.int .i64 nu) by first | (with_reducible assumption) | go_simp); have q2 := (hx1.cells (w.heap.size) (2) (by first | omega | (simp <;> omega))).trans (show _ = some (.slice a0 n0 c0) by first | (with_reducible assumption) | go_simp); have q3 := (hx1.cells (w.heap.size) (3) (by first | omega | (simp <;> omega))).trans (show _ = some (.slice a1 q.length c1) by first | (with_reducible assumption) | go_simp); (try (refine with_factG (T := w1.cell? ⟨w.heap.size + 1, 0, none⟩ = some (.int .i64 0)) ?_ (fun r0 => ?_); (focus (refine Eq.trans (hx1.cells (w.heap.size + 1) 0 ?_) ?_; (focus ((first | omega | (simp <;> omega)); done)); (first | (with_reducible assumption) | go_simp); done)))); (try (refine with_factG (T := w1.cell? ⟨w.heap.size + 1, 1, none⟩ = some (.int .i64 0)) ?_ (fun r1 => ?_); (focus (refine Eq.trans (hx1.cells (w.heap.size + 1) 1 ?_) ?_; (focus ((first | omega | (simp <;> omega)); done)); (first | (with_reducible assumption) | go_simp); done)))); (try (refine with_factG (T := w1.cell? ⟨w.heap.size + 1, 2, none⟩ = some (.slice none 0 0)) ?_ (fun r2 => ?_); (focus (refine Eq.trans (hx1.cells (w.heap.size + 1) 2 ?_) ?_; (focus ((first | omega | (simp <;> omega)); done)); (first | (with_reducible assumption) | go_simp); done)))); (try (refine with_factG (T := w1.cell? ⟨w.heap.size + 1, 3, none⟩ = some (.slice none 0 0)) ?_ (fun r3 => ?_); (focus (refine Eq.trans (hx1.cells (w.heap.size + 1) 3 ?_) ?_; (focus ((first | omega | (simp <;> omega)); done)); (first | (with_reducible assumption) | go_simp); done)))); (try (refine with_factG (T := w1.frozen? ⟨w.heap.size + 1, 0, none⟩ = false) ?_ (fun rf0 => ?_); (focus (refine Eq.trans (hx1.frz (w.heap.size + 1) 0 ?_) ?_; (focus ((first | omega | (simp <;> omega)); done)); (first | (with_reducible assumption) | go_simp); done)))); (try (refine with_factG (T := w1.frozen? ⟨w.heap.size + 1, 1, none⟩ = false) ?_ (fun rf1 => ?_); (focus (refine Eq.trans (hx1.frz (w.heap.size + 1) 1 ?_) ?_; (focus ((first | omega | (simp <;> omega)); done)); (first | (with_reducible assumption) | go_simp); done)))); (try (refine with_factG (T := w1.frozen? ⟨w.heap.size + 1, 2, none⟩ = false) ?_ (fun rf2 => ?_); (focus (refine Eq.trans (hx1.frz (w.heap.size + 1) 2 ?_) ?_; (focus ((first | omega | (simp <;> omega)); done)); (first | (with_reducible assumption) | go_simp); done)))); (try (refine with_factG (T := w1.frozen? ⟨w.heap.size + 1, 3, none⟩ = false) ?_ (fun rf3 => ?_); (focus (refine Eq.trans (hx1.frz (w.heap.size + 1) 3 ?_) ?_; (focus ((first | omega | (simp <;> omega)); done)); (first | (with_reducible assumption) | go_simp); done)))); (try (refine with_factG (T := w.heap.size + 1 < w1.heap.size) ?_ (fun rl => ?_); (focus (omega)))); (try (refine with_factG (T := w1.cell? ⟨w.heap.size + 1 + 1, 0, none⟩ = some (.int .i64 0)) ?_ (fun s0 => ?_); (focus (refine Eq.trans (hx1.cells (w.heap.size + 1 + 1) 0 ?_) ?_; (focus ((first | omega | (simp <;> omega)); done)); (first | (with_reducible assumption) | go_simp); done)))); (try (refine with_factG (T := w1.cell? ⟨w.heap.size + 1 + 1, 1, none⟩ = some (.int .i64 0)) ?_ (fun s1 => ?_); (focus (refine Eq.trans (hx1.cells (w.heap.size + 1 + 1) 1 ?_) ?_; (focus ((first | omega | (simp <;> omega)); done)); (first | (with_reducible assumption) | go_simp); done)))); (try (refine with_factG (T := w1.cell? ⟨w.heap.size + 1 + 1, 2, none⟩ = some (.slice none 0 0)) ?_ (fun s2 => ?_); (focus (refine Eq.trans (hx1.cells (w.heap.size + 1 + 1) 2 ?_) ?_; (focus ((first | omega | (simp <;> omega)); done)); (first | (with_reducible assumption) | go_simp); done)))); (try (refine with_factG (T := w1.cell? ⟨w.heap.size + 1 + 1, 3, none⟩ = some (.slice none 0 0)) ?_ (fun s3 => ?_); (focus (refine Eq.trans (hx1.cells (w.heap.size + 1 + 1) 3 ?_) ?_; (focus ((first | omega | (simp <;> omega)); done)); (first | (with_reducible assumption) | go_simp); done)))); (try (refine with_factG (T := w1.frozen? ⟨w.heap.size + 1 + 1, 0, none⟩ = false) ?_ (fun sf0 => ?_); (focus (refine Eq.trans (hx1.frz (w.heap.size + 1 + 1) 0 ?_) ?_; (focus ((first | omega | (simp <;> omega)); done)); (first | (with_reducible assumption) | go_simp); done)))); (try (refine with_factG (T := w1.frozen? ⟨w.heap.size + 1 + 1, 1, none⟩ = false) ?_ (fun sf1 => ?_); (focus (refine Eq.trans (hx1.frz (w.heap.size + 1 + 1) 1 ?_) ?_; (focus ((first | omega | (simp <;> omega)); done)); (first | (with_reducible assumption) | go_simp); done)))); (try (refine with_factG (T := w1.frozen? ⟨w.heap.size + 1 + 1, 2, none⟩ = false) ?_ (fun sf2 => ?_); (focus (refine Eq.trans (hx1.frz (w.heap.size + 1 + 1) 2 ?_) ?_; (focus ((first | omega | (simp <;> omega)); done)); (first | (with_reducible assumption) | go_simp); done)))); (try (refine with_factG (T := w1.frozen? ⟨w.heap.size + 1 + 1, 3, none⟩ = false) ?_ (fun sf3 => ?_); (focus (refine Eq.trans (hx1.frz (w.heap.size + 1 + 1) 3 ?_) ?_; (focus ((first | omega | (simp <;> omega)); done)); (first | (with_reducible assumption) | go_simp); done)))); (try (refine with_factG (T := w.heap.size + 1 + 1 < w1.heap.size) ?_ (fun sl => ?_); (focus (omega)))); clear hv1)))
    all_goals (go_wp2_with fail; go_meet)
    all_goals
      refine ⟨_, a2, n2, c2, rfl, Lib.hid ⟨(by first | (with_reducible assumption) | go_simp), (by first | (with_reducible assumption) | go_simp), (by first | (with_reducible assumption) | go_simp), (by first | (with_reducible assumption) | go_simp), (fun o ho => by match o, ho with | 0, _ => (first | (with_reducible assumption) | go_simp) | 1, _ => (first | (with_reducible assumption) | go_simp) | 2, _ => (first | (with_reducible assumption) | go_simp) | 3, _ => (first | (with_reducible assumption) | go_simp) | _ + 4, h => omega), (by first | omega | (simp <;> omega)), (by first | omega | (simp <;> omega)), (by first | (with_reducible assumption) | go_simp), (fun o ho => by match o, ho with | 0, _ => (first | (with_reducible assumption) | go_simp) | 1, _ => (first | (with_reducible assumption) | go_simp) | 2, _ => (first | (with_reducible assumption) | go_simp) | 3, _ => (first | (with_reducible assumption) | go_simp) | _ + 4, h => omega), (by first | (with_reducible assumption) | go_simp), (by first | (with_reducible assumption) | go_simp), (by first | (with_reducible assumption) | go_simp), (by first | (with_reducible assumption) | go_simp), ?_⟩, Lib.hid extA⟩
      refine RSl.keep gInt (by repeat (first | (with_reducible exact keeps_refl) | (with_reducible refine keeps_drew ?_) | (with_reducible refine keeps_alloc ?_ _) | (with_reducible refine keeps_set ?_ (fun _ h => absurd rfl h.2) _))) (RSl.more gInt (fun k hk hlt => ?_) (osl_ints HV1.out))
      simp at hk
      exact ⟨by omega, by omega⟩
  case rest =>
    obtain ⟨ob, a2, n2, c2, rfl, HM1, HX1⟩ := hcut
    have hm1 := HM1.out
    obtain ⟨m1, m2, m3, m4, m5, m6, m7, m8, m9, p1, p2, p3, p4, hv⟩ := hm1
    have f3 := m5 3 (by omega)
    have HV2 := Lib.hid hv
    have HOB := Lib.hid (show (∀ o, o < 4 → wc.frozen? ⟨ob, o, none⟩ = false) from m5)
    have hob1 : ¬ ob = w.heap.size := by omega
    have hob2 : ¬ ob = w.heap.size + 1 := by omega
    clear m5 hv HM1
    go_wp2_with fail
    refine wp_name (fun wb ewb => ?_)
    have b0 : wb.cell? ⟨ob, 0, none⟩ = some (.int .i64 st) := by rw [ewb]; go_simp
    have b1 : wb.cell? ⟨ob, 1, none⟩ = some (.int .i64 nu) := by rw [ewb]; go_simp
    have b2 : wb.cell? ⟨ob, 2, none⟩ = some (.slice a2 n2 c2) := by rw [ewb]; go_simp
    have b3 : wb.cell? ⟨ob, 3, none⟩ = some (.slice none 0 0) := by rw [ewb]; go_simp
    have bf : wb.frozen? ⟨ob, 3, none⟩ = false := by rw [ewb]; go_simp
    have HXC := Lib.hid (show Ext wc wb by rw [ewb]; exact extA)
    have HXB := Lib.hid (ext_trans HX1.out HXC.out)
    have hbs : wc.heap.size ≤ wb.heap.size := HXC.out.size
    have hob : ob < wb.heap.size := by omega
    clear ewb
    have HKB := Lib.hid (show Keeps (fun j => j < wb.heap.size ∧ j ≠ ob) wb wb from keeps_refl)
    go_loopw [17] (fun iv wr => ∃ (k : Nat) (a5 : Option Addr) (n5 c5 : Nat), k ≤ q.length ∧ iv = .int .i64 k ∧ wr.cell? ⟨ob, 3, none⟩ = some (.slice a5 n5 c5) ∧ wr.frozen? ⟨ob, 3, none⟩ = false ∧ wr.cell? ⟨ob, 0, none⟩ = some (.int .i64 st) ∧ wr.cell? ⟨ob, 1, none⟩ = some (.int .i64 nu) ∧ wr.cell? ⟨ob, 2, none⟩ = some (.slice a2 n2 c2) ∧
      Hid (OSl RDe 7 60 wb.heap.size (fun j => wb.heap.size ≤ j) wr (.slice a5 n5 c5) (q.take k)) ∧ Hid (Keeps (fun j => j < wb.heap.size ∧ j ≠ ob) wb wr) ∧ Hid (Ext w wr)) (fun iv _ => q.length - (intOf iv).toNat)
    case atStart => exact ⟨0, none, 0, 0, Nat.zero_le _, rfl, b3, bf, b0, b1, b2, Lib.hid osl_nil, HKB, HXB⟩
    case round =>
      obtain ⟨k, a5, n5, c5, hk, rfl, x3, xf, x0, x1, x2, HO, HK, HX⟩ := hrel
      have hzr := HK.out.size
      have HOL := Lib.hid (osl_lt HO.out)
      obtain rfl : n5 = (q.take k).length := (osl_len HO.out).1
      clear b0 b1 b2 b3 bf m1 m2 m3 m4
      by_cases hlt : k < q.length
      · obtain ⟨b, o, d, b1', m1, e1, b2', m2, e2, sx, rfl, hb, ek, hde, u0, u1, u2, u3, u4, u5, u6⟩ := deed_at (HL.out wr HX.out) hlt
        have hpd := HP.out d (List.mem_of_getElem? ek)
        have HDE := Lib.hid hde
        have HEK := Lib.hid (take_snocG ek)
        have hfl : (q.take k).length ≤ 1000 := by rw [List.length_take]; omega
        obtain ⟨q1, q2, q3, he, hk0, g1, g2, g3, g4, g5, g6⟩ := hde
        injection he with he0 he
        injection he with he1 he
        injection he with he2 he
        injection he with he3 he
        injection he with he4 he
        subst he1
        subst he3
        subst he4
        have HO1 := Lib.hid (fun (W : World) (hx : Ext wr W) => own_any (rmk_of' (g4.ext gStp hx) g5) hpd.2)
        have HO2 := Lib.hid (fun (W : World) (hx : Ext wr W) => own_any (rmk_of' (g1.ext gStp hx) g2) hpd.1)
        have HDI := Lib.hid (fun (F : Nat → Prop) (W : World) (v u : Value) (hv : RSl RStp 2 F W v d.run.1.1) (hu : RSl RStp 2 F W u d.mark.1) => (show RDe F W [.int .i64 d.kind, v, .int .i64 d.run.1.2, .string sx, u, .int .i64 d.mark.2, .int .i64 d.many] d from ⟨v, _, u, rfl, hk0, hv, g2, g3, hu, g5, g6⟩))
        have hbr : b < wr.heap.size := hb
        generalize d.run.1.1 = rp at *
        generalize d.mark.1 = mp at *
        generalize d.kind = dk at *
        generalize d.run.1.2 = rc at *
        generalize d.mark.2 = mc at *
        generalize d.many = dn at *
        clear ek he he0 he2 g1 g2 g3 g4 g5 g6 hk0 hpd HDE
        go_wp2_with fail
        refine wp_name (fun W2 eW2 => ?_)
        have y0 : W2.cell? ⟨wr.heap.size, 0, none⟩ = some (.int .i64 dk) := by rw [eW2]; go_simp
        have y1 : W2.cell? ⟨wr.heap.size, 1, none⟩ = some (.slice b1' m1 e1) := by rw [eW2]; go_simp
        have y2 : W2.cell? ⟨wr.heap.size, 2, none⟩ = some (.int .i64 rc) := by rw [eW2]; go_simp
        have y3 : W2.cell? ⟨wr.heap.size, 3, none⟩ = some (.string sx) := by rw [eW2]; go_simp
        have y4 : W2.cell? ⟨wr.heap.size, 4, none⟩ = some (.slice b2' m2 e2) := by rw [eW2]; go_simp
        have y5 : W2.cell? ⟨wr.heap.size, 5, none⟩ = some (.int .i64 mc) := by rw [eW2]; go_simp
        have y6 : W2.cell? ⟨wr.heap.size, 6, none⟩ = some (.int .i64 dn) := by rw [eW2]; go_simp
        have yf1 : W2.frozen? ⟨wr.heap.size, 1, none⟩ = false := by rw [eW2]; go_simp
        have yf2 : W2.frozen? ⟨wr.heap.size, 2, none⟩ = false := by rw [eW2]; go_simp
        have yf4 : W2.frozen? ⟨wr.heap.size, 4, none⟩ = false := by rw [eW2]; go_simp
        have yf5 : W2.frozen? ⟨wr.heap.size, 5, none⟩ = false := by rw [eW2]; go_simp
        have hw2 : Ext wr W2 := by rw [eW2]; exact extA
        have hr2 : wr.heap.size < W2.heap.size := World.block_lt_of_cell? _ _ y0
        clear eW2 u0 u1 u2 u3 u4 u5 u6
        go_cut [] from 21 to 30 (fun wx => ∃ (a3 : Option Addr) (n3 c3 : Nat) (a4 : Option Addr) (n4 c4 : Nat), wx.cell? ⟨wr.heap.size, 0, none⟩ = some (.int .i64 dk) ∧ wx.cell? ⟨wr.heap.size, 1, none⟩ = some (.slice a4 n4 c4) ∧ wx.cell? ⟨wr.heap.size, 2, none⟩ = some (.int .i64 rc) ∧ wx.cell? ⟨wr.heap.size, 3, none⟩ = some (.string sx) ∧ wx.cell? ⟨wr.heap.size, 4, none⟩ = some (.slice a3 n3 c3) ∧ wx.cell? ⟨wr.heap.size, 5, none⟩ = some (.int .i64 mc) ∧ wx.cell? ⟨wr.heap.size, 6, none⟩ = some (.int .i64 dn) ∧
          Hid (RSl RStp 2 (fun j => wr.heap.size < j) wx (.slice a3 n3 c3) mp) ∧ Hid (RSl RStp 2 (fun j => wr.heap.size < j) wx (.slice a4 n4 c4) rp) ∧ Hid (Ext wr wx) ∧ wr.heap.size < wx.heap.size)
        case first =>
          go_region_law (first
            | (go_simp; go_at_call 78; ((with_reducible refine (HO1.out _ (ext_trans hw2 extA)).mono ?_); rintro e w3 ⟨cs3, rfl, hm3, hx3⟩; have HM3 := Lib.hid (omk_mk hm3); obtain ⟨v3, rfl, hv3, _⟩ := hm3; obtain ⟨a3, n3, c3, rfl⟩ := osl_slice hv3; clear hv3; have hz3 := hx3.size; (try simp at hz3); have hb3 : wr.heap.size < w3.heap.size := (by omega); have y0 := (hx3.cells (wr.heap.size) (0) (by first | omega | (simp <;> omega))).trans (show _ = some (.int .i64 dk) by first | (with_reducible assumption) | go_simp); have y1 := (hx3.cells (wr.heap.size) (1) (by first | omega | (simp <;> omega))).trans (show _ = some (.slice b1' m1 e1) by first | (with_reducible assumption) | go_simp); have y2 := (hx3.cells (wr.heap.size) (2) (by first | omega | (simp <;> omega))).trans (show _ = some (.int .i64 rc) by first | (with_reducible assumption) | go_simp); have y3 := (hx3.cells (wr.heap.size) (3) (by first | omega | (simp <;> omega))).trans (show _ = some (.string sx) by first | (with_reducible assumption) | go_simp); have y4 := (hx3.cells (wr.heap.size) (4) (by first | omega | (simp <;> omega))).trans (show _ = some (.slice b2' m2 e2) by first | (with_reducible assumption) | go_simp); have y5 := (hx3.cells (wr.heap.size) (5) (by first | omega | (simp <;> omega))).trans (show _ = some (.int .i64 mc) by first | (with_reducible assumption) | go_simp); have y6 := (hx3.cells (wr.heap.size) (6) (by first | omega | (simp <;> omega))).trans (show _ = some (.int .i64 dn) by first | (with_reducible assumption) | go_simp); have yf1 := (hx3.frz (wr.heap.size) (1) (by first | omega | (simp <;> omega))).trans (show _ = false by first | (with_reducible assumption) | go_simp); have yf2 := (hx3.frz (wr.heap.size) (2) (by first | omega | (simp <;> omega))).trans (show _ = false by first | (with_reducible assumption) | go_simp); have yf4 := (hx3.frz (wr.heap.size) (4) (by first | omega | (simp <;> omega))).trans (show _ = false by first | (with_reducible assumption) | go_simp); have yf5 := (hx3.frz (wr.heap.size) (5) (by first | omega | (simp <;> omega))).trans (show _ = false by first | (with_reducible assumption) | go_simp); have HX3 := Lib.hid (show Ext wr w3 from ext_trans (ext_trans hw2 extA) hx3)))
            | (go_simp; go_at_call 78; go_must ((with_reducible refine (HO2.out _ (ext_trans HX3.out extA)).mono ?_); rintro e w4 ⟨cs4, rfl, hm4, hx4⟩; have HM4 := Lib.hid (omk_mk hm4); obtain ⟨v4, rfl, hv4, _⟩ := hm4; obtain ⟨a4, n4, c4, rfl⟩ := osl_slice hv4; clear hv4; have hz4 := hx4.size; (try simp at hz4); have hb4 : wr.heap.size < w4.heap.size := (by omega); have z0 := (hx4.cells (wr.heap.size) (0) (by first | omega | (simp <;> omega))).trans (show _ = some (.int .i64 dk) by first | (with_reducible assumption) | go_simp); have z1 := (hx4.cells (wr.heap.size) (1) (by first | omega | (simp <;> omega))).trans (show _ = some (.slice b1' m1 e1) by first | (with_reducible assumption) | go_simp); have z2 := (hx4.cells (wr.heap.size) (2) (by first | omega | (simp <;> omega))).trans (show _ = some (.int .i64 rc) by first | (with_reducible assumption) | go_simp); have z3 := (hx4.cells (wr.heap.size) (3) (by first | omega | (simp <;> omega))).trans (show _ = some (.string sx) by first | (with_reducible assumption) | go_simp); have z4 := (hx4.cells (wr.heap.size) (4) (by first | omega | (simp <;> omega))).trans (show _ = some (.slice b2' m2 e2) by first | (with_reducible assumption) | go_simp); have z5 := (hx4.cells (wr.heap.size) (5) (by first | omega | (simp <;> omega))).trans (show _ = some (.int .i64 mc) by first | (with_reducible assumption) | go_simp); have z6 := (hx4.cells (wr.heap.size) (6) (by first | omega | (simp <;> omega))).trans (show _ = some (.int .i64 dn) by first | (with_reducible assumption) | go_simp); have zf1 := (hx4.frz (wr.heap.size) (1) (by first | omega | (simp <;> omega))).trans (show _ = false by first | (with_reducible assumption) | go_simp); have zf2 := (hx4.frz (wr.heap.size) (2) (by first | omega | (simp <;> omega))).trans (show _ = false by first | (with_reducible assumption) | go_simp); have zf4 := (hx4.frz (wr.heap.size) (4) (by first | omega | (simp <;> omega))).trans (show _ = false by first | (with_reducible assumption) | go_simp); have zf5 := (hx4.frz (wr.heap.size) (5) (by first | omega | (simp <;> omega))).trans (show _ = false by first | (with_reducible assumption) | go_simp); have HX4 := Lib.hid (show Ext wr w4 from ext_trans (ext_trans HX3.out extA) hx4))))
          all_goals (go_wp2_with fail; go_meet)
          all_goals
            refine ⟨a3, n3, c3, a4, n4, c4, (by first | (with_reducible assumption) | go_simp), (by first | (with_reducible assumption) | go_simp), (by first | (with_reducible assumption) | go_simp), (by first | (with_reducible assumption) | go_simp), (by first | (with_reducible assumption) | go_simp), (by first | (with_reducible assumption) | go_simp), (by first | (with_reducible assumption) | go_simp), Lib.hid ?_, Lib.hid ?_, Lib.hid extA, (by first | omega | (simp <;> omega))⟩
            · refine RSl.keep gStp (by repeat (first | (with_reducible exact keeps_refl) | (with_reducible refine keeps_drew ?_) | (with_reducible refine keeps_alloc ?_ _) | (refine keeps_set ?_ (by intro _ h; exact Nat.lt_irrefl _ h) _))) (RSl.ext gStp (RSl.more gStp (fun k hk _ => ?_) (c_pathG HM3.out)) (show Ext w3 w4 from ext_trans extA hx4))
              have hk' := hk
              (try simp at hk')
              omega
            · refine RSl.keep gStp (by repeat (first | (with_reducible exact keeps_refl) | (with_reducible refine keeps_drew ?_) | (with_reducible refine keeps_alloc ?_ _) | (refine keeps_set ?_ (by intro _ h; exact Nat.lt_irrefl _ h) _))) (RSl.more gStp (fun k hk _ => ?_) (c_pathG HM4.out))
              have hk' := hk
              (try simp at hk')
              omega
        case rest =>
          obtain ⟨a3, n3, c3, a4, n4, c4, y0, y1, y2, y3, y4, y5, y6, HA3, HA4, HXX, hrx⟩ := hcut
          have hzx := HXX.out.size
          have hobr : ob < wr.heap.size := by omega
          have o0 := (HXX.out.cells ob 0 hobr).trans x0
          have o1 := (HXX.out.cells ob 1 hobr).trans x1
          have o2 := (HXX.out.cells ob 2 hobr).trans x2
          have o3 := (HXX.out.cells ob 3 hobr).trans x3
          have of := (HXX.out.frz ob 3 hobr).trans xf
          have hobx : ob < wc.heap.size := by omega
          generalize q.take k = fl at *
          clear x0 x1 x2 x3 xf HO1 HO2
          go_wp2_with (at_builtin; go_must (refine wpList_appAll gDe rfl (.tmp 32) (.tmp 34) 23 rfl wb.heap.size 60 j0 _ 7 96 Try.underlying23 HJ.out HZ0.out HZ1.out HZ2.out rfl (by omega) (F := fun j => wb.heap.size ≤ j) (G := fun j => wr.heap.size < j) (.slice a5 fl.length c5) fl rfl (osl_ext gDe HO.out (ext_trans HXX.out extA)) (.slice (some ⟨wc.heap.size, 0, none⟩) 1 1) [d] rfl (rd_one rfl (rangeAt7G (by first | (with_reducible assumption) | go_simp) (by first | (with_reducible assumption) | go_simp) (by first | (with_reducible assumption) | go_simp) (by first | (with_reducible assumption) | go_simp) (by first | (with_reducible assumption) | go_simp) (by first | (with_reducible assumption) | go_simp) (by first | (with_reducible assumption) | go_simp)) (HDI.out _ _ _ _ (HA4.out.ext gStp extA) (HA3.out.ext gStp extA)) hrx (by first | omega | (simp <;> omega)) (Nat.le_refl _) (by unfold maxLen; omega)) one_deG (fun j hj _ => ⟨Nat.le_trans hzr (Nat.le_of_lt hj), fun e => by have := (HOL.out j e.symm).2; have hj' : wr.heap.size < j := hj; omega⟩) (deG_len hfl) (deG_byt hfl) (by first | omega | (simp <;> omega)) ?_; intro v9 w9 hown9 hg9 hat9; obtain ⟨a9, n9, c9, rfl⟩ := osl_slice hown9; have hgb := hg9.block ob (by first | omega | (simp <;> omega)) (fun e => by have := (HOL.out ob e.symm).1; omega); have s0 : w9.cell? ⟨ob, 0, none⟩ = some (.int .i64 st) := (World.cell?_of_block (a := ⟨ob, 0, none⟩) hgb).trans (by go_simp); have s1 : w9.cell? ⟨ob, 1, none⟩ = some (.int .i64 nu) := (World.cell?_of_block (a := ⟨ob, 1, none⟩) hgb).trans (by go_simp); have s2 : w9.cell? ⟨ob, 2, none⟩ = some (.slice a2 n2 c2) := (World.cell?_of_block (a := ⟨ob, 2, none⟩) hgb).trans (by go_simp); have s3 : w9.cell? ⟨ob, 3, none⟩ = some (.slice a5 fl.length c5) := (World.cell?_of_block (a := ⟨ob, 3, none⟩) hgb).trans (by go_simp); have sf : w9.frozen? ⟨ob, 3, none⟩ = false := (World.frozen?_of_block (a := ⟨ob, 3, none⟩) hgb).trans (by go_simp); have HL9 := Lib.hid (osl_lt hown9); have hl9 : ob < w9.heap.size := World.block_lt_of_cell? _ _ s0; have HX9 := Lib.hid (show Ext w w9 from ext_grow (ext_trans HX.out (ext_trans HXX.out extA)) hg9 (fun j hj => by have := (HOL.out j hj).1; omega)); have HK9 := Lib.hid (show Keeps (fun j => j < wb.heap.size ∧ j ≠ ob) wb w9 from (HK.out.trans (Keeps.of_below (F := fun j => j < wb.heap.size ∧ j ≠ ob) (show Ext wr _ from ext_trans HXX.out extA))).trans ⟨hg9.size, fun j hj hl => hg9.block j hl (fun e => by have := (HOL.out j e.symm).1; have := hj.1; omega)⟩); have HN9 := Lib.hid hown9; clear hgb hown9 hg9 hat9))
          go_roundw
          case rel => exact ⟨k + 1, a9, n9, c9, by omega, by go_num, by go_simp, by go_simp, by go_simp, by go_simp, by go_simp,
            Lib.hid (by rw [HEK.out]; exact osl_keep gDe HN9.out (keeps_set keeps_refl (fun _ h => no_ownG (fun k hk => (HL9.out k hk).1) hob h) _)), Lib.hid (keeps_set HK9.out (fun _ h => h.2 rfl) _), Lib.hid (ext_set HX9.out (by show w.heap.size ≤ ob; omega) _)⟩
          case measure => simp [intOf]; omega
      · obtain rfl : k = q.length := by omega
        have HF := Lib.hid (show OSl RDe 7 60 wb.heap.size (fun j => wb.heap.size ≤ j) wr (.slice a5 (q.take q.length).length c5) q by have := HO.out; rw [List.take_of_length_le (Nat.le_refl _)] at this ⊢; exact this)
        have k0 := World.cell?_of_block (a := ⟨w.heap.size + 1, 0, none⟩) (HK.out.block (w.heap.size + 1) ⟨by omega, by omega⟩ (by omega))
        have k1 := World.cell?_of_block (a := ⟨w.heap.size + 1, 1, none⟩) (HK.out.block (w.heap.size + 1) ⟨by omega, by omega⟩ (by omega))
        have k2 := World.cell?_of_block (a := ⟨w.heap.size + 1, 2, none⟩) (HK.out.block (w.heap.size + 1) ⟨by omega, by omega⟩ (by omega))
        have k3 := World.cell?_of_block (a := ⟨w.heap.size + 1, 3, none⟩) (HK.out.block (w.heap.size + 1) ⟨by omega, by omega⟩ (by omega))
        have hrc : w.heap.size + 1 < wc.heap.size := by omega
        rw [(HXC.out.cells _ 0 hrc).trans p1] at k0
        rw [(HXC.out.cells _ 1 hrc).trans p2] at k1
        rw [(HXC.out.cells _ 2 hrc).trans p3] at k2
        rw [(HXC.out.cells _ 3 hrc).trans p4] at k3
        have kf : ∀ o, o < 4 → wr.frozen? ⟨w.heap.size + 1, o, none⟩ = false := fun o ho => (World.frozen?_of_block (a := ⟨w.heap.size + 1, o, none⟩) (HK.out.block (w.heap.size + 1) ⟨by omega, by omega⟩ (by omega))).trans ((HXC.out.frz _ o hrc).trans (m9 o ho))
        have kf0 := kf 0 (by omega)
        have kf1 := kf 1 (by omega)
        have kf2 := kf 2 (by omega)
        have kf3 := kf 3 (by omega)
        have hon := HOL.out
        have HV3 := Lib.hid (show RSl RInt 1 (fun j => w.heap.size + 1 < j) wr (.slice a2 n2 c2) l from RSl.more gInt (fun j hj _ => hj.1.1) (RSl.keep gInt (F := fun j => (w.heap.size + 1 < j ∧ j ≠ ob) ∧ j < wb.heap.size) (HK.out.weaken (fun j _ h => ⟨h.2, h.1.2⟩)) (RSl.more gInt (fun j hj hl => ⟨hj, hl⟩) (HV2.out.ext gInt HXC.out))))
        have hob3 : ob < wr.heap.size := by omega
        rw [List.take_of_length_le (Nat.le_refl _)] at x3 HF HOL
        clear hon
        go_wp2_with fail
        refine bodyPost_ret (v := .agg #[.int .i64 st, .int .i64 nu, .slice a2 n2 c2, .slice a5 q.length c5]) (by simp [results, Try.results66, go_sem, k0, k1, k2, k3]) rfl ⟨[.int .i64 st, .int .i64 nu, .slice a2 n2 c2, .slice a5 q.length c5], rfl, ⟨_, _, rfl, HI1.out, HI2.out, ?_, ?_⟩, ?_⟩
        · refine RSl.more gInt (fun j hj _ => ?_) (RSl.keep gInt (F := fun j => w.heap.size + 1 < j) (by repeat (first | (with_reducible exact keeps_refl) | (with_reducible refine keeps_drew ?_) | (refine keeps_set ?_ (by intro _ h; first | exact Nat.lt_irrefl _ h | (have h' := h; simp at h'; omega)) _))) HV3.out)
          have h' : w.heap.size + 1 < j := hj
          show w.heap.size ≤ j
          omega
        · refine RSl.more gDe (fun j hj _ => ?_) (RSl.keep gDe (F := fun j => wb.heap.size ≤ j) (by repeat (first | (with_reducible exact keeps_refl) | (with_reducible refine keeps_drew ?_) | (refine keeps_set ?_ (by intro _ h; first | exact Nat.lt_irrefl _ h | (have h' := h; simp at h'; omega)) _))) (osl_rsl gDe HF.out (fun _ h _ => h) (fun _ h => h)))
          have h' : wb.heap.size ≤ j := hj
          show w.heap.size ≤ j
          omega
        · exact ext_set (ext_set (ext_set (ext_set HX.out (by show w.heap.size ≤ w.heap.size + 1; omega) _) (by show w.heap.size ≤ w.heap.size + 1; omega) _) (by show w.heap.size ≤ w.heap.size + 1; omega) _) (by show w.heap.size ≤ w.heap.size + 1; omega) _
end Go.Proofs.Ytiladkinndgeaaa
/- Notes as they lie; notes of one's own. -/
namespace Go.Proofs.Ytiladkinndgeaaa
open Go Go.RowKit Go.BigFrame Cp

theorem info_noG : (Try.prog.info? 25).map (fun i => (i.zero, i.size, i.bytes)) = some (some (.agg #[.int .i64 0, .int .i64 0, .slice none 0 0, .slice none 0 0]), 4, 64) := by kernel_rfl
theorem one_noG : ∀ F w cs (y : No), RNo F w cs y → ∀ u ∈ cs, u.oneCell' = true := by
  rintro F w cs y ⟨v, u, rfl, _, _, h1, h2⟩ x hx
  obtain ⟨a1, n1, c1, rfl⟩ := h1.slice
  obtain ⟨a2, n2, c2, rfl⟩ := h2.slice
  simp at hx
  rcases hx with rfl | rfl | rfl | rfl <;> rfl
theorem noG_len {a : Nat} (h : a ≤ 1000) : a + 1 ≤ maxLen := Nat.le_trans (by omega : a + 1 ≤ 1001) (by unfold maxLen; decide)
theorem noG_byt {a : Nat} (h : a ≤ 1000) : (a + 1) * 64 ≤ 140737488355328 := by omega
/-- a note of a list -/
theorem note_at {F : Nat → Prop} {w : World} {a : Option Addr} {n cap : Nat} {q : List No} (h : RSl RNo 4 F w (.slice a n cap) q) {i : Nat} (hi : i < n) :
    ∃ b o d a1 n1 c1 a2 n2 c2, a = some ⟨b, o, none⟩ ∧ b < w.heap.size ∧ q[i]? = some d ∧ RNo F w [.int .i64 d.site, .int .i64 d.number, .slice a1 n1 c1, .slice a2 n2 c2] d ∧
      w.cell? ⟨b, o + i * 4, none⟩ = some (.int .i64 d.site) ∧ w.cell? ⟨b, o + i * 4 + 1, none⟩ = some (.int .i64 d.number) ∧ w.cell? ⟨b, o + i * 4 + 2, none⟩ = some (.slice a1 n1 c1) ∧ w.cell? ⟨b, o + i * 4 + 3, none⟩ = some (.slice a2 n2 c2) := by
  obtain ⟨b, o, d, cs, e1, e2, e3, _, e4, hd⟩ := h.at_ hi
  have hd' := hd
  obtain ⟨v, u, rfl, h1, h2, h3, h4⟩ := hd
  obtain ⟨a1, n1, c1, rfl⟩ := h3.slice
  obtain ⟨a2, n2, c2, rfl⟩ := h4.slice
  exact ⟨b, o, d, a1, n1, c1, a2, n2, c2, e1, e2, e3, hd', by simpa using e4 0 _ rfl, by simpa [Nat.add_assoc] using e4 1 _ rfl, by simpa [Nat.add_assoc] using e4 2 _ rfl, by simpa [Nat.add_assoc] using e4 3 _ rfl⟩
theorem path_small {m : Mk} (h : checkM m = 0) : m.1.length ≤ 8000000000000 := Nat.le_trans (checkM_ok.1 h).1 (by omega)
theorem note_small {n : No} (h : checkN n = 0) : n.needs.length ≤ 1000 ∧ n.deeds.length ≤ 1000 ∧ ∀ d ∈ n.deeds, d.run.1.1.length ≤ 8000000000000 ∧ d.mark.1.length ≤ 8000000000000 := by
  obtain ⟨_, _, h3, _, _, _, h7, h8⟩ := checkN_okP h
  refine ⟨by omega, by omega, fun d hd => ?_⟩
  have hc := checkDL_ok.1 h8 d hd
  by_cases hk : d.kind = 1
  · obtain ⟨h1, h2, _⟩ := deed_put hc hk
    refine ⟨path_small (checkR_parts h1).1, ?_⟩
    rw [noneM_is h2]; simp
  · obtain ⟨_, h2, _, h6, _⟩ := deed_take hc hk
    refine ⟨?_, path_small h2⟩
    rw [noneM_is h6]; simp
theorem rangeAt4G {w : World} {b : Nat} {x0 x1 x2 x3 : Value} (h0 : w.cell? ⟨b, 0, none⟩ = some x0) (h1 : w.cell? ⟨b, 1, none⟩ = some x1) (h2 : w.cell? ⟨b, 2, none⟩ = some x2) (h3 : w.cell? ⟨b, 3, none⟩ = some x3) : w.rangeAt b 0 [x0, x1, x2, x3] := by
  intro j v hv
  match j, hv with
  | 0, hv => injection hv with hv; subst hv; exact h0
  | 1, hv => injection hv with hv; subst hv; exact h1
  | 2, hv => injection hv with hv; subst hv; exact h2
  | 3, hv => injection hv with hv; subst hv; exact h3
  | j + 4, hv => simp at hv
/-- notes of one's own -/
def IsOwnN (l : List No) (w : World) (e : Ending) (w' : World) : Prop := ∃ v, e = .returned v ∧ OSl RNo 4 25 w.heap.size (fun j => w.heap.size ≤ j) w' v l ∧ Ext w w'
set_option maxRecDepth 100000 in
set_option maxHeartbeats 4000000 in
theorem ownsNotes_any {F : Nat → Prop} {w : World} {v : Value} {l : List No} (h : RSl RNo 4 F w v l) (hl : l.length ≤ 1000) (hn : ∀ n ∈ l, checkN n = 0) :
    Calls Try.prog 48 #[v] w (IsOwnN l w) := by
  have HN := Lib.hid hn
  have HL := Lib.hid (fun (W : World) (hx : Ext w W) => h.ext gNo hx)
  obtain ⟨a0, n0, c0, rfl⟩ := h.slice
  obtain rfl : n0 = l.length := h.len.1
  obtain ⟨i0, hi0, hz0, hz1', hz2⟩ := info_parts info_noG
  have HJ := Lib.hid hi0
  have HZ0 := Lib.hid hz0
  have HZ1 := Lib.hid hz1'
  have HZ2 := Lib.hid hz2
  clear h hn hi0 hz0 hz1' hz2
  go_enter Try.func48, Try.ntmps48
  go_wp2_with fail
  go_loopw [3, 8] (fun ov iv wr => ∃ k : Nat, k ≤ l.length ∧ iv = .int .i64 k ∧ Hid (OSl RNo 4 25 w.heap.size (fun j => w.heap.size ≤ j) wr ov (l.take k)) ∧ Hid (Ext w wr)) (fun _ iv _ => l.length - (intOf iv).toNat)
  case atStart => exact ⟨0, Nat.zero_le _, rfl, Lib.hid osl_nil, Lib.hid (ext_refl _)⟩
  case round =>
    obtain ⟨k, hk, rfl, HO, HX⟩ := hrel
    have hzr := HX.out.size
    have HOL := Lib.hid (osl_lt HO.out)
    obtain ⟨a5, n5, c5, rfl⟩ := osl_slice HO.out
    obtain rfl : n5 = (l.take k).length := (osl_len HO.out).1
    by_cases hlt : k < l.length
    · obtain ⟨b, o, d, a1, n1, c1, a2, n2, c2, rfl, hb, ek, hd, y0, y1, y2, y3⟩ := note_at (HL.out wr HX.out) hlt
      obtain ⟨s1, s2, s3⟩ := note_small (HN.out d (List.mem_of_getElem? ek))
      have HOW := Lib.hid (fun (W : World) (hx : Ext wr W) => ownNote_any (gNo.ext hd hx) s1 s2 s3)
      have HEK := Lib.hid (take_snocG ek)
      have hfl : (l.take k).length ≤ 1000 := by rw [List.length_take]; omega
      have hbr : b < wr.heap.size := hb
      generalize l.take k = fl at *
      clear ek hd s1 s2 s3
      go_wp2_with (first | (go_at_call 66; go_must ((with_reducible refine (HOW.out _ extA).mono ?_); rintro e w2 ⟨cs2, rfl, hn2, hx2⟩; have HN2 := Lib.hid hn2; obtain ⟨v2, u2, rfl, _, _, hv2, hu2⟩ := hn2; obtain ⟨a3, n3, c3, rfl⟩ := hv2.slice; obtain ⟨a4, n4, c4, rfl⟩ := hu2.slice; clear hv2 hu2; have hz2 := hx2.size; (try simp at hz2); have hb2 : wr.heap.size < w2.heap.size := (by omega); have HX2 := Lib.hid (show Ext wr w2 from ext_trans extA hx2))) | (at_builtin; go_must (refine wpList_appAll gNo rfl (.tmp 12) (.tmp 15) 36 rfl w.heap.size 25 i0 _ 4 64 Try.underlying36 HJ.out HZ0.out HZ1.out HZ2.out rfl (by omega) (F := fun j => w.heap.size ≤ j) (G := fun j => wr.heap.size ≤ j) (.slice a5 fl.length c5) fl rfl (osl_ext gNo HO.out (ext_trans HX2.out extA)) (.slice (some ⟨w2.heap.size, 0, none⟩) 1 1) [d] rfl (rd_one rfl (rangeAt4G (by first | (with_reducible assumption) | go_simp) (by first | (with_reducible assumption) | go_simp) (by first | (with_reducible assumption) | go_simp) (by first | (with_reducible assumption) | go_simp)) (gNo.ext (gNo.more (fun j hj _ => (show wr.heap.size ≤ j by first | omega | (simp at hj; omega))) HN2.out) extA) (by first | omega | (simp <;> omega)) (by first | omega | (simp <;> omega)) (Nat.le_refl _) (by unfold maxLen; omega)) one_noG (fun j hj _ => ⟨Nat.le_trans hzr hj, fun e => by have := (HOL.out j e.symm).2; have hj' : wr.heap.size ≤ j := hj; omega⟩) (noG_len hfl) (noG_byt hfl) (by first | omega | (simp <;> omega)) ?_; intro v9 w9 hown9 hg9 hat9; obtain ⟨a9, n9, c9, rfl⟩ := osl_slice hown9; have HX9 := Lib.hid (show Ext w w9 from ext_grow (ext_trans HX.out (ext_trans HX2.out extA)) hg9 (fun j hj => (HOL.out j hj).1)); clear hg9 hat9)))
      go_roundw
      case rel => exact ⟨k + 1, by omega, by go_num, Lib.hid (by rw [HEK.out]; exact hown9), HX9⟩
      case measure => simp [intOf]; omega
    · obtain rfl : k = l.length := by omega
      have HF := Lib.hid (show OSl RNo 4 25 w.heap.size (fun j => w.heap.size ≤ j) wr (.slice a5 (l.take l.length).length c5) l by have := HO.out; rw [List.take_of_length_le (Nat.le_refl _)] at this ⊢; exact this)
      go_wp2_with fail
      go_ret
      exact ⟨_, rfl, HF.out, HX.out⟩
end Go.Proofs.Ytiladkinndgeaaa
/- The same notes, of equal ones. -/
namespace Go.Proofs.Ytiladkinndgeaaa
open Go Go.RowKit Go.BigFrame Cp

set_option maxRecDepth 100000 in
set_option maxHeartbeats 4000000 in
theorem sameNote_any {F G : Nat → Prop} {w : World} {cs ds : List Value} {n : No} (h : RNo F w cs n) (k : RNo G w ds n) :
    Calls Try.prog 14 #[.agg cs.toArray, .agg ds.toArray] w fun e w' => e = .returned (.bool true) ∧ Ext w w' := by
  obtain ⟨v, u, rfl, i1, i2, h1, h2⟩ := h
  obtain ⟨v', u', rfl, _, _, k1, k2⟩ := k
  obtain ⟨st, nu, l, q⟩ := n
  simp only at h1 h2 k1 k2 ⊢
  have HSI := Lib.hid (fun (W : World) (hx : Ext w W) => sameInts_any (h1.ext gInt hx) (k1.ext gInt hx))
  have HSD := Lib.hid (fun (W : World) (hx : Ext w W) => sameDeeds_any (h2.ext gDe hx) (k2.ext gDe hx))
  obtain ⟨a1, n1, c1, rfl⟩ := h1.slice
  obtain ⟨a2, n2, c2, rfl⟩ := h2.slice
  obtain ⟨a3, n3, c3, rfl⟩ := k1.slice
  obtain ⟨a4, n4, c4, rfl⟩ := k2.slice
  clear h1 h2 k1 k2 i1 i2
  go_enter Try.func14, Try.ntmps14
  go_wp2_with (first | (go_at_call 44; go_must ((with_reducible refine (HSI.out _ extA).mono ?_); rintro e w2 ⟨rfl, hx2⟩; have hz2 := hx2.size; (try simp at hz2); have x3 := (hx2.cells (w.heap.size) 3 (by first | omega | (simp <;> omega))).trans (show _ = some (.slice a2 n2 c2) by first | (with_reducible assumption) | go_simp); have x7 := (hx2.cells (w.heap.size + 1) 3 (by first | omega | (simp <;> omega))).trans (show _ = some (.slice a4 n4 c4) by first | (with_reducible assumption) | go_simp); have HX2 := Lib.hid (show Ext w w2 from ext_trans extA hx2))) | (go_at_call 45; go_must ((with_reducible refine (HSD.out _ (ext_trans HX2.out extA)).mono ?_); rintro e w3 ⟨rfl, hx3⟩; have HX3 := Lib.hid (show Ext w w3 from ext_trans (ext_trans HX2.out extA) hx3))))
  go_ret
  exact ⟨rfl, ext_trans HX3.out extA⟩
set_option maxRecDepth 100000 in
set_option maxHeartbeats 4000000 in
theorem sameNotes_any {F G : Nat → Prop} {w : World} {v u : Value} {l : List No} (h : RSl RNo 4 F w v l) (k : RSl RNo 4 G w u l) :
    Calls Try.prog 21 #[v, u] w fun e w' => e = .returned (.bool true) ∧ Ext w w' := by
  have HL := Lib.hid (fun (W : World) (hx : Ext w W) => h.ext gNo hx)
  have HM := Lib.hid (fun (W : World) (hx : Ext w W) => k.ext gNo hx)
  obtain ⟨a, n, c, rfl⟩ := h.slice
  obtain ⟨a2, n2, c2, rfl⟩ := k.slice
  obtain ⟨rfl, hn1, hn2⟩ := h.len
  obtain ⟨rfl, _, _⟩ := k.len
  unfold maxLen at hn2
  have q1 : l.length ≤ 9223372036854775807 := by omega
  clear h k hn1 hn2
  go_enter Try.func21, Try.ntmps21
  go_wp2
  go_loopw [5] (fun i wr => ∃ q : Nat, q ≤ l.length ∧ i = .int .i64 q ∧ Ext w wr) (fun i _ => l.length - (intOf i).toNat)
  case atStart => exact ⟨0, Nat.zero_le _, rfl, ext_refl _⟩
  case round =>
    obtain ⟨q, hq, rfl, hx⟩ := hrel
    have HX := Lib.hid hx
    clear hx
    by_cases hlt : q < l.length
    · obtain ⟨b, o, d, b1, m1, e1, b2, m2, e2, rfl, hb, ek, hde, u0, u1, u2, u3⟩ := note_at (HL.out wr HX.out) hlt
      obtain ⟨b', o', d', b1', m1', e1', b2', m2', e2', rfl, hb', ek', hde', v0, v1, v2, v3⟩ := note_at (HM.out wr HX.out) hlt
      obtain rfl : d = d' := by rw [ek] at ek'; exact Option.some.inj ek'
      have HSM := Lib.hid (fun (W : World) (hx : Ext wr W) => sameNote_any (gNo.ext hde hx) (gNo.ext hde' hx))
      generalize d.site = st at *
      generalize d.number = nu at *
      clear ek ek' hde hde'
      go_wp2_with fail
      refine wp_name (fun W2 eW2 => ?_)
      have e10 : W2.cell? ⟨b, o + q * 4, none⟩ = some (.int .i64 st) := by rw [eW2]; go_simp
      have e11 : W2.cell? ⟨b, o + q * 4 + 1, none⟩ = some (.int .i64 nu) := by rw [eW2]; go_simp
      have e12 : W2.cell? ⟨b, o + q * 4 + 2, none⟩ = some (.slice b1 m1 e1) := by rw [eW2]; go_simp
      have e13 : W2.cell? ⟨b, o + q * 4 + 3, none⟩ = some (.slice b2 m2 e2) := by rw [eW2]; go_simp
      have e14 : W2.cell? ⟨b', o' + q * 4, none⟩ = some (.int .i64 st) := by rw [eW2]; go_simp
      have e15 : W2.cell? ⟨b', o' + q * 4 + 1, none⟩ = some (.int .i64 nu) := by rw [eW2]; go_simp
      have e16 : W2.cell? ⟨b', o' + q * 4 + 2, none⟩ = some ((.slice b1' m1' e1')) := by rw [eW2]; go_simp
      have e17 : W2.cell? ⟨b', o' + q * 4 + 3, none⟩ = some ((.slice b2' m2' e2')) := by rw [eW2]; go_simp
      have zW2_0 : b < W2.heap.size := by rw [eW2]; first | assumption | omega | (simp <;> omega)
      have zW2_1 : b' < W2.heap.size := by rw [eW2]; first | assumption | omega | (simp <;> omega)
      have hw2 : Ext wr W2 := by rw [eW2]; exact extA
      clear eW2
      refine wp_region_later fol (by kernel_rfl) (fun hlater => ?_)
      repeat (go_big_quiet_step ((first
          | (go_at_call 14; (with_reducible exact later_of (HSM.out _ (ext_trans hw2 (Later.ext _))))))))
      refine wpQuiet_nil ?_
      rintro w3 ⟨⟨w3x, hx3⟩, rfl⟩
      clear hlater
      go_wp2_with fail
      go_roundw
      case rel => exact ⟨q + 1, by omega, by go_num, ext_trans HX.out (ext_trans hw2 hx3)⟩
      case measure => simp [intOf]; omega
    · go_wp2
      go_ret
      exact ⟨rfl, HX.out⟩
end Go.Proofs.Ytiladkinndgeaaa
