/- The atoms of a run, by the program. -/
import Derived.RangeFuncNested
import Derived.RangeFuncBound
import Derived.RangeFuncCalls
import Derived.RangeFuncLeaves
import Derived.Shelf.Abstract
import Derived.Shelf.RegionOpen
import Derived.WalkKit
import Derived.OwnWalkIn
import Derived.TacticsInMore
import Derived.LoopNIn
import Derived.LoopIn
import Derived.Test.YthkhkbjkbpgaoaaB4
set_option linter.unusedVariables false
set_option linter.unusedSimpArgs false
namespace Go.Proofs.Ythkhkbjkbpgaoaa
open Go Go.RowKit Go.BigFrame Cp

attribute [local go_sem] Oper.semAt_some
def IsAtomsE (l : List At) (er : Int) (w : World) (e : Ending) (w' : World) : Prop := ∃ v, e = .returned (.tuple #[v, .int .i64 er]) ∧ RSl RAt 3 (fun k => w.heap.size ≤ k) w' v l ∧ Ext w w'
theorem wpIn_name {F : Fence} {n : Nat} {P : Program} {c : Code} {Q : Exit → Act → World → Prop} {a : Act} {w : World} (h : ∀ W, W = w → c.wpIn F n P Q a W) : c.wpIn F n P Q a w := h w rfl
set_option maxRecDepth 100000 in
set_option maxHeartbeats 4000000 in
theorem runAtoms_any {F : Nat → Prop} {w : World} {cs : List Value} {r : Rn} (h : RRn F w cs r) :
    Calls Try.prog 39 #[.agg cs.toArray] w (IsAtomsE (if checkR r = 0 then atomsR r else []) (checkR r) w) := by
  have HC := Lib.hid (fun (W : World) (hx : Ext w W) => checkRunP_any (gRn.ext h hx))
  obtain ⟨v, u, rfl, hl, hi, hu⟩ := h
  obtain ⟨⟨l, c⟩, t⟩ := r
  simp only at hl hi hu HC ⊢
  obtain ⟨s, rfl, rfl, hs⟩ := tx_bytes hu
  obtain ⟨a1, n1, c1, rfl⟩ := hl.slice
  have HL := Lib.hid hl
  clear hl hu
  by_cases h0 : checkR ((l, c), s.data.toList) = 0
  · rw [if_pos h0, h0]
    rw [h0] at HC
    have hs60 : s.size ≤ 60 := by simpa using (checkR_parts h0).2.2.1
    refine (callsIn_wide (n := 6)).1 ?_
    refine callsIn_of_wp_marks Try.func39 rfl trivial ?_ rfl
    simp only [Try.ntmps39, List.size_toArray, List.length_cons, List.length_nil, Nat.reduceAdd, Nat.reduceSub, Array.replicate_succ, Array.replicate_zero, List.push_toArray, List.append_toArray, List.nil_append, List.cons_append]
    gi_wp2_with (first
      | (refine ⟨trivial, ?_⟩; gi_at_call 46; refine (callsIn_wide.2 (HC.out _ (by repeat (first | (with_reducible exact ext_refl _) | (with_reducible assumption) | (with_reducible refine ext_drew ?_) | (with_reducible refine ext_drewN ?_ _) | (with_reducible refine ext_alloc ?_ _) | (with_reducible refine ext_set ?_ (by first | omega | (simp <;> omega)) _) | (with_reducible refine ext_trans ?_ (by with_reducible assumption)))))).mono ?_; rintro e w1 ⟨rfl, hx1⟩; have hz1 := hx1.size; (try simp at hz1); have hb1_0 : w.heap.size < w1.heap.size := (by omega); have p0 := (hx1.cells (w.heap.size) (0) (by first | omega | (simp <;> omega))).trans (show _ = some (.slice a1 n1 c1) by first | assumption | go_simp); have p1 := (hx1.cells (w.heap.size) (1) (by first | omega | (simp <;> omega))).trans (show _ = some (.int .i64 c) by first | assumption | go_simp); have p2 := (hx1.cells (w.heap.size) (2) (by first | omega | (simp <;> omega))).trans (show _ = some (.string s) by first | assumption | go_simp))
      | (refine ⟨trivial, ?_⟩; gi_at_call 79; refine (callsIn_wide.2 (each_any _ _ _ _ _)).mono ?_; rintro e w2 ⟨rfl, rfl⟩))
    refine wpIn_name (fun W0 eW0 => ?_)
    have k0 : W0.cell? ⟨w1.heap.size, 0, none⟩ = some (.slice none 0 0) := by rw [eW0]; go_simp
    have k1 : W0.frozen? ⟨w1.heap.size, 0, none⟩ = false := by rw [eW0]; go_simp
    have k2 : W0.cell? ⟨w1.heap.size + 1, 0, none⟩ = some (.slice a1 n1 c1) := by rw [eW0]; go_simp
    have k3 : W0.cell? ⟨w1.heap.size + 1, 1, none⟩ = some (.int .i64 c) := by rw [eW0]; go_simp
    have k4 : W0.cell? ⟨w1.heap.size + 1, 2, none⟩ = some (.string s) := by rw [eW0]; go_simp
    have hs0 : W0.heap.size = w1.heap.size + 1 + 1 := by rw [eW0]; simp
    have hx0 : Ext w W0 := by rw [eW0]; exact (by repeat (first | (with_reducible exact ext_refl _) | (with_reducible assumption) | (with_reducible refine ext_drew ?_) | (with_reducible refine ext_drewN ?_ _) | (with_reducible refine ext_alloc ?_ _) | (with_reducible refine ext_set ?_ (by first | omega | (simp <;> omega)) _) | (with_reducible refine ext_trans ?_ (by with_reducible assumption))))
    have hw1 := hx1.size
    (try simp at hw1)
    clear eW0 hx1 p0 p1 p2
    obtain ⟨i0, hi0, hz0, hz1', hz2⟩ := info_parts info_atom
    obtain ⟨f, hf⟩ : ∃ f : Nat → At, f = fun (i : Nat) => (afterM (l, c) (i : Int), s.data.toList.getD i 0) := ⟨_, rfl⟩
    have hat : atomsR ((l, c), s.data.toList) = (List.range s.size).map f := by
      unfold atomsR; rw [hf]
      have : s.data.toList.length = s.size := by simp
      simp only [this]
    have HFF := Lib.hid hf
    have HAT := Lib.hid hat
    clear hf hat
    refine wpIn_rangeFunc_X (F := Fence.wide) (n := 6) rfl (by omega) (gf := 95) (lb := #[.pointer (some ⟨w1.heap.size + 1, 0, none⟩)]) rfl trivial (enters_of Try.func95 (by kernel_rfl) rfl)
      (Fk := fun k => k ≠ w1.heap.size ∧ k < W0.heap.size) (each1_any (n := 5) (by omega) (Bn := w1.heap.size + 1) ⟨by omega, by omega⟩ (by omega) ((RSl.more gStp (G := fun k => k < w.heap.size) (fun _ _ hk => hk) HL.out).ext gStp hx0) (fun j hj => ⟨by omega, by omega⟩) hi h0 k2 k3 k4)
      (fun h => by omega) (ext_refl _) (fun _ => rfl)
      (fun (pre : List Yd) (W : World) => ∃ v, W.cell? ⟨w1.heap.size, 0, none⟩ = some v ∧ W.frozen? ⟨w1.heap.size, 0, none⟩ = false ∧ OSl RAt 3 52 (W0.heap.size + 2) (fun j => W0.heap.size + 2 ≤ j) W v (pre.map Yd.at_) ∧ pre.map Yd.at_ = (List.range pre.length).map f ∧ Ext w W)
      ?ie ?ip ⟨_, k0, k1, osl_nil, rfl, hx0⟩
      (fun (pre : List Yd) (x : Yd) (a' : Act) (W : World) => ∃ Bx v m, W0.heap.size + 2 ≤ Bx ∧ W.cell? ⟨w1.heap.size, 0, none⟩ = some v ∧ (∀ k, v.ownBlock = some k → k < m) ∧ W0.heap.size + 2 ≤ m ∧ RSl RStp 2 (fun j => m ≤ j) W (.slice x.a x.n x.c) x.at_.1.1 ∧ x.at_ = f pre.length ∧ I64 x.at_.1.2 ∧
        W.cell? ⟨Bx, 0, none⟩ = some (.slice x.a x.n x.c) ∧ W.cell? ⟨Bx, 1, none⟩ = some (.int .i64 x.at_.1.2) ∧ W.cell? ⟨Bx, 2, none⟩ = some (.int .u8 (x.at_.2.toNat : Int)) ∧
        a' = { tmps := #[.agg #[.slice a1 n1 c1, .int .i64 c, .string s], .pointer (some ⟨w.heap.size, 0, none⟩), .slice none 0 0, .int .i64 0, .int .i64 0, .pointer (some ⟨w1.heap.size, 0, none⟩), .pointer (some ⟨Bx, 0, none⟩), .agg #[.slice a1 n1 c1, .int .i64 c, .string s], .int .i64 0, .int .i64 0, .bool false, undef, .agg #[.slice a1 n1 c1, .int .i64 c, .string s], .func (.func 95) #[] #[.pointer (some ⟨w1.heap.size + 1, 0, none⟩)], .agg #[.slice x.a x.n x.c, .int .i64 x.at_.1.2, .int .u8 (x.at_.2.toNat : Int)], undef, undef, undef, undef, undef], defers := [] })
      ?ap ?assign ?body ?done
    case ie =>
      rintro pre A B ⟨v, h1, h2, h3, h4, h5⟩ he
      have hlt := World.block_lt_of_cell? _ _ h1
      exact ⟨v, (he.cells _ _ hlt).trans h1, (he.frz _ _ hlt).trans h2, osl_ext gAt h3 he, h4, ext_trans h5 he⟩
    case ip =>
      rintro pre W o' ⟨v, h1, h2, h3, h4, h5⟩ hlt
      have hb : (W.putObj (W0.heap.size + 1) o').heap[w1.heap.size]? = W.heap[w1.heap.size]? := World.putObj_heap_other (by omega)
      exact ⟨v, (World.cell?_of_block (a := ⟨w1.heap.size, 0, none⟩) hb).trans h1, (World.frozen?_of_block (a := ⟨w1.heap.size, 0, none⟩) hb).trans h2,
        osl_keep gAt h3 (keeps_putObj (fun h => by rcases h with h | h; (· omega); (· have := (osl_lt h3 _ h.symm).1; omega)) o'), h4, ext_putObj h5 (by have := hx0.size; omega) o'⟩
    case ap =>
      rintro pre x a' W o' ⟨Bx, v, m, h1, h2, h3, h4, h5, h6, h7, h8, h9, h10, h11⟩ hlt
      have hb : ∀ k, k ≠ W0.heap.size + 1 → (W.putObj (W0.heap.size + 1) o').heap[k]? = W.heap[k]? := fun k hk => World.putObj_heap_other (by omega)
      exact ⟨Bx, v, m, h1, (World.cell?_of_block (a := ⟨w1.heap.size, 0, none⟩) (hb w1.heap.size (by omega))).trans h2, h3, h4, h5.keep gStp (keeps_putObj (fun h => by omega) o'), h6, h7,
        (World.cell?_of_block (a := ⟨Bx, 0, none⟩) (hb Bx (by omega))).trans h8, (World.cell?_of_block (a := ⟨Bx, 1, none⟩) (hb Bx (by omega))).trans h9, (World.cell?_of_block (a := ⟨Bx, 2, none⟩) (hb Bx (by omega))).trans h10, h11⟩
    case assign =>
      rintro pre x Wp W K ⟨v, h1, h2, h3, h4, h5⟩ he hsz ⟨r1, r2, r3⟩ hK
      have hlt := World.block_lt_of_cell? _ _ h1
      have hc := (he.cells _ _ hlt).trans h1
      have hzW := he.size
      have R1 := Lib.hid (r1.trans (congrFun HFF.out.symm _))
      clear r1
      have hoW : w1.heap.size < W.heap.size := Nat.lt_of_lt_of_le hlt hzW
      dsimp only [encY]
      gi_wp2
      refine hK _ _ ?e1 ?e2
      case e1 => exact ext_alloc (ext_refl _) _
      case e2 => exact ⟨W.heap.size, v, Wp.heap.size, by omega, by go_simp, fun k hk => (osl_lt h3 k hk).2, hsz, r2.ext gStp (ext_alloc (ext_refl _) _), R1.out, r3, by go_simp, by go_simp, by go_simp, rfl⟩
    case body =>
      rintro pre x a' W ⟨v, h1, h2, h3, h4, h5⟩ ⟨Bx, v', m, q1, q2, q3, q4, q5, q6, q7, q8, q9, q10, rfl⟩ hlen hsz
      obtain rfl : v' = v := by rw [h1] at q2; exact (Option.some.inj q2).symm
      obtain ⟨ao, no, co, rfl⟩ := osl_slice h3
      have hpl : (pre.map Yd.at_).length = pre.length := by simp
      obtain rfl : no = pre.length := by have := (osl_len h3).1; rwa [hpl] at this
      have Q6 := Lib.hid q6
      clear q6
      have hown := osl_lt h3
      have hcl := osl_isCells h3
      have hoW : w1.heap.size < W.heap.size := by omega
      gi_wp2_with (gi_at_builtin; refine wpListIn_app1 gAt rfl (.tmp 15) (.tmp 17) 37 rfl (W0.heap.size + 2) 52 i0 _ 3 40 Try.underlying37 hi0 hz0 hz1' hz2 rfl (by omega) (G := fun j => W0.heap.size + 2 ≤ j) (H := fun j => m ≤ j) (.slice ao pre.length co) (pre.map Yd.at_) rfl (osl_ext gAt h3 (ext_alloc (ext_refl _) _)) W.heap.size 0 1 [.slice x.a x.n x.c, .int .i64 x.at_.1.2, .int .u8 (x.at_.2.toNat : Int)] x.at_ rfl rfl (rangeAt3 (by go_simp) (by go_simp) (by go_simp)) (one_at _ _ _ x.at_ ⟨_, rfl, q5, q7⟩) ⟨_, rfl, q5.ext gStp (ext_alloc (ext_refl _) _), q7⟩ (fun j hj _ => ⟨(show W0.heap.size + 2 ≤ j by omega), fun e => by have := q3 j e.symm; omega⟩) (by rw [hpl]; unfold maxLen; omega) (by rw [hpl]; omega) (by simp; omega) ?_; intro v9 w9 hown9 hg9 hat9; have o9 := (World.cell?_of_block (a := ⟨w1.heap.size, 0, none⟩) (hg9.block w1.heap.size (by simp; omega) (fun e => by have := (hown _ e.symm).1; omega))).trans (show _ = some (.slice ao pre.length co) by go_simp); have of9 := (World.frozen?_of_block (a := ⟨w1.heap.size, 0, none⟩) (hg9.block w1.heap.size (by simp; omega) (fun e => by have := (hown _ e.symm).1; omega))).trans (show _ = false by go_simp); obtain ⟨a9, n9, c9, rfl⟩ := osl_slice hown9)
      refine ⟨(((KeepsOthers.alloc W _).trans (KeepsOthers.of_grownBy hg9 fun j o ej hj => ?_)).trans (KeepsOthers.setCell _ _ _)).from _, ?_, .slice a9 n9 c9, by go_simp, by go_simp, ?_, ?_, ?_⟩
      · exact hcl j o ej (by have hj' : j < W.heap.size := (hown j ej).2; rw [← hj]; exact (Below.heap_alloc W _ j hj').symm)
      · exact keeps_set ((keeps_alloc keeps_refl _).trans ⟨hg9.size, fun j hj hlt => hg9.block j hlt (fun e => by have := (hown _ e.symm).1; omega)⟩) (fun _ h => h.1 rfl) _
      · have h9 := osl_keep gAt hown9 (w' := w9.setCell ⟨w1.heap.size, 0, none⟩ (.slice a9 n9 c9)) (keeps_set keeps_refl (fun _ h => by
          rcases h with h | h
          · have : W0.heap.size + 2 ≤ w1.heap.size := h; omega
          · have := (osl_lt hown9 _ h.symm).1; have h' : W0.heap.size + 2 ≤ w1.heap.size := this; omega) _)
        simpa using h9
      · rw [List.map_append, h4, List.length_append]
        show _ ++ [x.at_] = _
        rw [Q6.out]
        exact (range_map f pre.length).symm
      · exact ext_set (ext_grow (ext_alloc h5 _) hg9 (fun j hj => by have := (hown j hj).1; have := hx0.size; omega)) (show w.heap.size ≤ w1.heap.size by omega) _
    case done =>
      rintro xs W hlen ⟨v, h1, h2, h3, h4, h5⟩ hsz hK
      obtain ⟨ao, no, co, rfl⟩ := osl_slice h3
      have hfin := osl_rsl gAt h3 (G := fun j => W0.heap.size + 2 ≤ j) (fun j hj _ => hj) (fun j hj => hj)
      gi_wp2
      refine ⟨by simp, .inl ⟨_, _, rfl, run_takeDeferred hK, ?_⟩⟩
      refine ⟨.tuple #[.slice ao no co, .int .i64 0], by simp [results, Try.results39, go_sem], _, rfl, ?_, ext_putObj h5 (by have := hx0.size; omega) _⟩
      rw [HAT.out, ← hlen, ← h4]
      exact RSl.more gAt (fun j hj _ => (show w.heap.size ≤ j by have : W0.heap.size + 2 ≤ j := hj; omega)) (hfin.keep gAt (keeps_putObj (fun h => by have : W0.heap.size + 2 ≤ W0.heap.size := h; omega) _))
  · rw [if_neg h0]
    have t1 : (checkR ((l, c), s.data.toList) != 0) = true := by simpa using h0
    generalize checkR ((l, c), s.data.toList) = er at *
    clear h0
    go_enter Try.func39, Try.ntmps39
    go_wp2_with (go_at_call 46; go_must ((with_reducible refine (HC.out _ (by repeat (first | (with_reducible exact ext_refl _) | (with_reducible assumption) | (with_reducible refine ext_drew ?_) | (with_reducible refine ext_drewN ?_ _) | (with_reducible refine ext_alloc ?_ _) | (with_reducible refine ext_set ?_ (by first | omega | (simp <;> omega)) _) | (with_reducible refine ext_trans ?_ (by with_reducible assumption))))).mono ?_); rintro e w1 ⟨rfl, hx1⟩; have hz1 := hx1.size; (try simp at hz1); have hb1_0 : w.heap.size < w1.heap.size := (by omega); have p0 := (hx1.cells (w.heap.size) (0) (by first | omega | (simp <;> omega))).trans (show _ = some (.slice a1 n1 c1) by first | assumption | go_simp); have p1 := (hx1.cells (w.heap.size) (1) (by first | omega | (simp <;> omega))).trans (show _ = some (.int .i64 c) by first | assumption | go_simp); have p2 := (hx1.cells (w.heap.size) (2) (by first | omega | (simp <;> omega))).trans (show _ = some (.string s) by first | assumption | go_simp)))
    refine bodyPost_ret (v := .tuple #[.slice none 0 0, .int .i64 er]) (by simp [results, Try.results39, go_sem]) rfl ⟨_, rfl, RSl.nil_ (Nat.zero_le _), (by repeat (first | (with_reducible exact ext_refl _) | (with_reducible assumption) | (with_reducible refine ext_drew ?_) | (with_reducible refine ext_drewN ?_ _) | (with_reducible refine ext_alloc ?_ _) | (with_reducible refine ext_set ?_ (by first | omega | (simp <;> omega)) _) | (with_reducible refine ext_trans ?_ (by with_reducible assumption))))⟩
end Go.Proofs.Ythkhkbjkbpgaoaa
