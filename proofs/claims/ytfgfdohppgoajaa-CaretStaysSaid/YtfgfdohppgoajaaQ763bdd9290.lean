/- Who does deeds: a run is put. -/
import Derived.RangeFuncNested
import Derived.RangeFuncBound
import Derived.RangeFuncCalls
import Derived.RangeFuncLeaves
import Derived.Shelf.Abstract
import Derived.Shelf.RegionOpen
import Derived.WalkKit
import Derived.OwnWalkIn
import Derived.TacticsInMore
import Derived.LoopNIn
import Derived.LoopIn
import Derived.Test.YtfgfdohppgoajaaQ6e665f97d3
import Derived.Test.YtfgfdohppgoajaaQ13e2a16b33
import Derived.Test.YtfgfdohppgoajaaQ4b67ca6e89
import Derived.Test.YtfgfdohppgoajaaQ4f41037d17
import Derived.Deep.RegionLaw
import Derived.Test.YtfgfdohppgoajaaQ7235879c0f
import Derived.Test.YtfgfdohppgoajaaQ032f3a0a26
import Derived.Test.YtfgfdohppgoajaaQ03bf41633c
import Derived.Test.YtfgfdohppgoajaaQbabeb3fad8
set_option linter.unusedVariables false
set_option linter.unusedSimpArgs false
namespace Go.Proofs.Ytfgfdohppgoajaa
open Go Go.RowKit Go.BigFrame Cp

attribute [local go_sem] Oper.semAt_some
theorem wpIn_name' {F : Fence} {n : Nat} {P : Program} {c : Code} {Q : Exit → Act → World → Prop} {a : Act} {w : World} (h : ∀ W, W = w → c.wpIn F n P Q a W) : c.wpIn F n P Q a w := h w rfl
/-- the normal way alone -/
def onlyN (K : Act → World → Prop) : Exit → Act → World → Prop
  | .normal, a, w => K a w
  | _, _, _ => False
theorem wpIn_only {F : Fence} {n : Nat} {P : Program} {c : Code} {Q : Exit → Act → World → Prop} {a : Act} {w : World} (h : c.wpIn F n P (onlyN (fun a w => Q .normal a w)) a w) : c.wpIn F n P Q a w :=
  wpIn_mono h fun e a w hq => by cases e <;> first | exact hq | exact hq.elim
theorem others_ext {W W' : World} (h : Ext W W') : KeepsOthers W W' := ⟨Below.size h, fun k o hk _ => (Below.block h k (Array.getElem?_eq_some_iff.1 hk).1).trans hk⟩
theorem filter_one {α : Type} (p : α → Bool) (x : α) : [x].filter p = if p x = true then [x] else [] := by cases h : p x <;> simp [h]
/-- the atoms are others now, that are new -/
theorem doer_new0 {Z : Nat → Prop} {B b : Nat} {s : St} {w V w4 W' : World} {v u v4 : Value} {l : List At} (h : DoerIs Z B b s w v u) (hV : Ext w V) (hv4 : OSl RAt 3 50 V.heap.size (fun j => V.heap.size ≤ j) w4 v4 l) (hx : Ext V w4) (hZ : ∀ j, Z j → j < w.heap.size)
    (hk : Keeps (fun j => (j < w.heap.size ∧ j ≠ b) ∨ V.heap.size ≤ j) w4 W') (c0 : W'.cell? ⟨b, 0, none⟩ = some v4) (c1 : W'.cell? ⟨b, 1, none⟩ = some u) (fz : ∀ o, W'.frozen? ⟨b, o, none⟩ = false) :
    DoerIs Z B b (l, s.2) W' v4 u := by
  have hb := doer_lt h
  have hru := osl_lt h.og
  have hrv := osl_lt hv4
  have hVs := hV.size
  have h4 : OSl RAt 3 50 B (fun j => B ≤ j ∧ j ≠ b ∧ some j ≠ u.ownBlock) W' v4 l := by
    refine osl_more gAt (osl_base (base := V.heap.size) (by have := h.le; omega) (osl_keep gAt hv4 (hk.weaken (fun j _ hj => ?_)))) (fun k hk _ _ => ⟨by have := h.le; omega, by omega, fun e => by have := (hru k e.symm).2; omega⟩)
    rcases hj with hj | hj
    · exact .inr hj
    · exact .inr (hrv j hj.symm).1
  have h5 : OSl RMk 2 29 B (fun j => B ≤ j ∧ j ≠ b ∧ some j ≠ v4.ownBlock) W' u s.2 := by
    have h5' : OSl RMk 2 29 B (fun j => (B ≤ j ∧ j ≠ b ∧ some j ≠ v.ownBlock) ∧ j < w.heap.size) w u s.2 := osl_more gMk h.og (fun k hk hl _ => ⟨hk, hl⟩)
    refine osl_more gMk (osl_keep gMk (osl_ext gMk h5' (ext_trans hV hx)) (hk.weaken (fun j _ hj => ?_))) (fun k hk _ _ => ⟨hk.1.1, hk.1.2.1, fun e => by have := (hrv k e.symm).1; omega⟩)
    rcases hj with hj | hj
    · exact .inl ⟨hj.2, hj.1.2.1⟩
    · exact .inl ⟨(hru j hj.symm).2, (h.rg j hj.symm).1⟩
  refine ⟨c0, c1, fz, h4, h5, fun j hj => ⟨fun e => ?_, ?_, fun hz => ?_⟩, h.rg, h.le, h.nz⟩
  · have h1 := (hrv j hj).1
    have h2 := (hru j e).2
    omega
  · have := (hrv j hj).1; omega
  · have h1 := (hrv j hj).1
    have h2 := hZ j hz
    omega
theorem kept_putObj {Z : Nat → Prop} {a w : World} (h : Kept Z a w) {k : Nat} (hk : ¬ Z k) (o : Obj) : Kept Z a (w.putObj k o) :=
  ⟨h.os, h.tape, h.output, by simp only [World.putObj, Array.size_setIfInBounds]; exact h.size, fun j hj hl => (World.putObj_heap_other (fun e => hk (by first | (rw [← e]; exact hj) | (rw [e]; exact hj)))).trans (h.block j hj hl)⟩
theorem cell_putObj {w : World} {k b : Nat} (h : b ≠ k) (o : Nat) (x : Obj) : (w.putObj k x).cell? ⟨b, o, none⟩ = w.cell? ⟨b, o, none⟩ := World.cell?_of_block (a := ⟨b, o, none⟩) (World.putObj_heap_other (by omega))
theorem frz_putObj {w : World} {k b : Nat} (h : b ≠ k) (o : Nat) (x : Obj) : (w.putObj k x).frozen? ⟨b, o, none⟩ = w.frozen? ⟨b, o, none⟩ := World.frozen?_of_block (a := ⟨b, o, none⟩) (World.putObj_heap_other (by omega))
theorem filter_right {l : List At} {p : At → Bool} (h : RightA l) : RightA (l.filter p) := by
  obtain ⟨hs, ha⟩ := h
  refine ⟨?_, fun a hm => ha a (List.mem_filter.1 hm).1⟩
  clear ha
  induction l with
  | nil => trivial
  | cons x r ih =>
    rw [List.filter_cons]
    split
    · exact sortedA_mk (ih (sortedA_tail hs)) (fun b hb => sortedA_head hs b (List.mem_filter.1 hb).1)
    · exact ih (sortedA_tail hs)
set_option maxRecDepth 100000 in
set_option maxHeartbeats 4000000 in
theorem dput_any {Z F : Nat → Prop} {w : World} {B b : Nat} {s : St} {v u : Value} {cs : List Value} {r : Rn} (h : DoerIs Z B b s w v u) (hrn : RRn F w cs r) (hcr : checkR r = 0) (hZ : ∀ j, Z j → j < w.heap.size)
    (hs : RightA s.1) (hg : SortedG s.2) (hl3 : s.1.length ≤ 300) (hn : s.2.length ≤ 1000) :
    Calls Try.prog 109 #[.pointer (some ⟨b, 0, none⟩), .agg cs.toArray] w (fun e w' => e = .returned (.tuple #[]) ∧ DoerAt Z B b (putNs s.2 s.1 (atomsR r), s.2) w' ∧ Kept Z w w') := by
  have hbw := doer_lt h
  have HD := Lib.hid (fun (W : World) (hx : Ext w W) => doer_ext h hx)
  obtain ⟨v0, u0, rfl, hl, hi, hu⟩ := hrn
  obtain ⟨⟨l, c⟩, t⟩ := r
  simp only at hl hi hu hcr ⊢
  have hra := right_of (atoms_right hcr)
  have HRA := Lib.hid hra
  obtain ⟨sx, rfl, rfl, hsx⟩ := tx_bytes hu
  obtain ⟨a1, n1, c1, rfl⟩ := hl.slice
  have HL := Lib.hid hl
  obtain ⟨la, lg⟩ := s
  simp only at hs hg hl3 hn ⊢
  have HMG := Lib.hid (fun (W : World) (hx : Ext w W) (G : Nat → Prop) (ds : List Value) (m : Mk) (hm : RMk G W ds m) => (gone_any (doer_ext h hx).c1 (doer_gone (doer_ext h hx)) hm hg (by omega) : Calls Try.prog 117 #[.pointer (some ⟨b, 0, none⟩), .agg ds.toArray] W (fun e w' => e = .returned (.tuple #[.int .i64 (placeG lg m : Nat), .bool (hasG lg m)]) ∧ Ext W w')))
  have HSR := Lib.hid hs
  obtain ⟨av, nv, cv, rfl⟩ := osl_slice h.oa
  obtain ⟨au, nu, cu, rfl⟩ := osl_slice h.og
  have HZ := Lib.hid hZ
  clear hl hu h hs hg hZ hra
  have hs60 : sx.size ≤ 60 := by simpa using (checkR_parts hcr).2.2.1
  refine (callsIn_wide (n := 6)).1 ?_
  refine callsIn_of_wp_marks Try.func109 rfl trivial ?_ rfl
  simp only [Try.ntmps109, List.size_toArray, List.length_cons, List.length_nil, Nat.reduceAdd, Nat.reduceSub, Array.replicate_succ, Array.replicate_zero, List.push_toArray, List.append_toArray, List.nil_append, List.cons_append]
  gi_wp2_with (refine ⟨trivial, ?_⟩; gi_at_call 116; refine (callsIn_wide.2 (each_any _ _ _ _ _)).mono ?_; rintro e w2 ⟨rfl, rfl⟩)
  refine wpIn_name' (fun W0 eW0 => ?_)
  have k0 : W0.cell? ⟨w.heap.size + 2, 0, none⟩ = some (.slice none 0 0) := by rw [eW0]; go_simp
  have k1 : W0.frozen? ⟨w.heap.size + 2, 0, none⟩ = false := by rw [eW0]; go_simp
  have k2 : W0.cell? ⟨w.heap.size + 3, 0, none⟩ = some (.slice a1 n1 c1) := by rw [eW0]; go_simp
  have k3 : W0.cell? ⟨w.heap.size + 3, 1, none⟩ = some (.int .i64 c) := by rw [eW0]; go_simp
  have k4 : W0.cell? ⟨w.heap.size + 3, 2, none⟩ = some (.string sx) := by rw [eW0]; go_simp
  have k5 : W0.cell? ⟨w.heap.size, 0, none⟩ = some (.pointer (some ⟨b, 0, none⟩)) := by rw [eW0]; go_simp
  have hs0 : w.heap.size + 4 ≤ W0.heap.size := by rw [eW0]; simp
  have hs0' : W0.heap.size ≤ w.heap.size + 4 := by rw [eW0]; simp
  have hx0 : Ext w W0 := by rw [eW0]; exact (by repeat (first | (with_reducible exact ext_refl _) | (with_reducible assumption) | (with_reducible refine ext_drew ?_) | (with_reducible refine ext_drewN ?_ _) | (with_reducible refine ext_alloc ?_ _) | (with_reducible refine ext_set ?_ (by first | omega | (simp <;> omega)) _) | (with_reducible refine ext_trans ?_ (by with_reducible assumption))))
  clear eW0
  obtain ⟨i0, hi0, hz0, hz1', hz2⟩ := info_parts info_atom
  obtain ⟨f, hf⟩ : ∃ f : Nat → At, f = fun (i : Nat) => (afterM (l, c) (i : Int), sx.data.toList.getD i 0) := ⟨_, rfl⟩
  have hat : atomsR ((l, c), sx.data.toList) = (List.range sx.size).map f := by
    unfold atomsR; rw [hf]
    have : sx.data.toList.length = sx.size := by simp
    simp only [this]
  have HFF := Lib.hid hf
  have HAT := Lib.hid hat
  clear hf hat
  obtain ⟨pk, hpk⟩ : ∃ pk : At → Bool, pk = fun a => !hasG lg a.1 := ⟨_, rfl⟩
  have HPK := Lib.hid hpk
  clear hpk
  refine wpIn_rangeFunc_X (F := Fence.wide) (n := 6) rfl (by omega) (gf := 121) (lb := #[.pointer (some ⟨w.heap.size + 3, 0, none⟩)]) rfl trivial (enters_of Try.func121 (by kernel_rfl) rfl)
    (Fk := fun k => k ≠ w.heap.size + 2 ∧ k < W0.heap.size) (each1_any (n := 5) (by omega) (Bn := w.heap.size + 3) ⟨by omega, by omega⟩ (by omega) ((RSl.more gStp (G := fun k => k < w.heap.size) (fun _ _ hk => hk) HL.out).ext gStp hx0) (fun j hj => ⟨by omega, by omega⟩) hi hcr k2 k3 k4)
    (fun h => by omega) (ext_refl _) (fun _ => rfl)
    (fun (pre : List Yd) (W : World) => ∃ v, W.cell? ⟨w.heap.size + 2, 0, none⟩ = some v ∧ W.frozen? ⟨w.heap.size + 2, 0, none⟩ = false ∧ W.cell? ⟨w.heap.size, 0, none⟩ = some (.pointer (some ⟨b, 0, none⟩)) ∧ OSl RAt 3 50 (W0.heap.size + 2) (fun j => W0.heap.size + 2 ≤ j) W v ((pre.map Yd.at_).filter pk) ∧ pre.map Yd.at_ = (List.range pre.length).map f ∧ Ext w W)
    ?ie ?ip ⟨_, k0, k1, k5, osl_nil, rfl, hx0⟩
    (fun (pre : List Yd) (x : Yd) (a' : Act) (W : World) => ∃ Bx v m, W0.heap.size + 2 ≤ Bx ∧ W.cell? ⟨w.heap.size + 2, 0, none⟩ = some v ∧ (∀ k, v.ownBlock = some k → k < m) ∧ W0.heap.size + 2 ≤ m ∧ RSl RStp 2 (fun j => m ≤ j) W (.slice x.a x.n x.c) x.at_.1.1 ∧ x.at_ = f pre.length ∧ I64 x.at_.1.2 ∧
      W.cell? ⟨Bx, 0, none⟩ = some (.slice x.a x.n x.c) ∧ W.cell? ⟨Bx, 1, none⟩ = some (.int .i64 x.at_.1.2) ∧ W.cell? ⟨Bx, 2, none⟩ = some (.int .u8 (x.at_.2.toNat : Int)) ∧
      a' = { tmps := #[.pointer (some ⟨b, 0, none⟩), .agg #[.slice a1 n1 c1, .int .i64 c, .string sx], .pointer (some ⟨w.heap.size, 0, none⟩), .pointer (some ⟨w.heap.size + 1, 0, none⟩), .pointer (some ⟨w.heap.size + 2, 0, none⟩), .pointer (some ⟨Bx, 0, none⟩), undef, undef, .agg #[.slice a1 n1 c1, .int .i64 c, .string sx], .func (.func 121) #[] #[.pointer (some ⟨w.heap.size + 3, 0, none⟩)], .agg #[.slice x.a x.n x.c, .int .i64 x.at_.1.2, .int .u8 (x.at_.2.toNat : Int)], undef, undef, undef, undef, undef, undef, undef, undef, undef, undef, undef, undef, undef, undef, undef, undef, undef, undef, undef, undef, undef, undef, undef, undef], defers := [] })
    ?ap ?assign ?body ?done
  case ie =>
    rintro pre A Bq ⟨v, h1, h2, h2', h3, h4, h5⟩ he
    have hlt := World.block_lt_of_cell? _ _ h1
    have hlt' := World.block_lt_of_cell? _ _ h2'
    exact ⟨v, (he.cells _ _ hlt).trans h1, (he.frz _ _ hlt).trans h2, (he.cells _ _ hlt').trans h2', osl_ext gAt h3 he, h4, ext_trans h5 he⟩
  case ip =>
    rintro pre W o' ⟨v, h1, h2, h2', h3, h4, h5⟩ hlt
    have hb : (W.putObj (W0.heap.size + 1) o').heap[w.heap.size + 2]? = W.heap[w.heap.size + 2]? := World.putObj_heap_other (by omega)
    have hb' : (W.putObj (W0.heap.size + 1) o').heap[w.heap.size]? = W.heap[w.heap.size]? := World.putObj_heap_other (by omega)
    exact ⟨v, (World.cell?_of_block (a := ⟨w.heap.size + 2, 0, none⟩) hb).trans h1, (World.frozen?_of_block (a := ⟨w.heap.size + 2, 0, none⟩) hb).trans h2, (World.cell?_of_block (a := ⟨w.heap.size, 0, none⟩) hb').trans h2',
      osl_keep gAt h3 (keeps_putObj (fun h => by rcases h with h | h; (· omega); (· have := (osl_lt h3 _ h.symm).1; omega)) o'), h4, ext_putObj h5 (by omega) o'⟩
  case ap =>
    rintro pre x a' W o' ⟨Bx, v, m, h1, h2, h3, h4, h5, h6, h7, h8, h9, h10, h11⟩ hlt
    have hb : ∀ k, k ≠ W0.heap.size + 1 → (W.putObj (W0.heap.size + 1) o').heap[k]? = W.heap[k]? := fun k hk => World.putObj_heap_other (by omega)
    exact ⟨Bx, v, m, h1, (World.cell?_of_block (a := ⟨w.heap.size + 2, 0, none⟩) (hb (w.heap.size + 2) (by omega))).trans h2, h3, h4, h5.keep gStp (keeps_putObj (fun h => by omega) o'), h6, h7,
      (World.cell?_of_block (a := ⟨Bx, 0, none⟩) (hb Bx (by omega))).trans h8, (World.cell?_of_block (a := ⟨Bx, 1, none⟩) (hb Bx (by omega))).trans h9, (World.cell?_of_block (a := ⟨Bx, 2, none⟩) (hb Bx (by omega))).trans h10, h11⟩
  case assign =>
    rintro pre x Wp W K ⟨v, h1, h2, h2', h3, h4, h5⟩ he hsz ⟨r1, r2, r3⟩ hK
    have hlt := World.block_lt_of_cell? _ _ h1
    have hc := (he.cells _ _ hlt).trans h1
    have hzW := he.size
    have R1 := Lib.hid (r1.trans (congrFun HFF.out.symm _))
    clear r1
    have hoW : w.heap.size + 2 < W.heap.size := Nat.lt_of_lt_of_le hlt hzW
    dsimp only [encY]
    gi_wp2
    refine hK _ _ ?e1 ?e2
    case e1 => exact ext_alloc (ext_refl _) _
    case e2 => exact ⟨W.heap.size, v, Wp.heap.size, by omega, by go_simp, fun k hk => (osl_lt h3 k hk).2, hsz, r2.ext gStp (ext_alloc (ext_refl _) _), R1.out, r3, by go_simp, by go_simp, by go_simp, rfl⟩
  case body =>
    rintro pre x a' W ⟨v, h1, h2, h2', h3, h4, h5⟩ ⟨Bx, v', m, q1, q2, q3, q4, q5, q6, q7, q8, q9, q10, rfl⟩ hlen hsz
    obtain rfl : v' = v := by rw [h1] at q2; exact (Option.some.inj q2).symm
    obtain ⟨ao, no, co, rfl⟩ := osl_slice h3
    have hpl : ((pre.map Yd.at_).filter pk).length ≤ pre.length := by have := List.length_filter_le pk (pre.map Yd.at_); simpa using this
    obtain ⟨q, hq⟩ : ∃ q, q = (pre.map Yd.at_).filter pk := ⟨_, rfl⟩
    rw [← hq] at h3 hpl
    have HQ := Lib.hid hq
    have H4 := Lib.hid h4
    obtain rfl : no = q.length := (osl_len h3).1
    clear hq h4
    have Q6 := Lib.hid q6
    clear q6
    have hown := osl_lt h3
    have hcl := osl_isCells h3
    have hoW : w.heap.size + 2 < W.heap.size := by omega
    have hBW : Bx < W.heap.size := World.block_lt_of_cell? _ _ q8
    have HGX := Lib.hid (fun (V : World) (hx : Ext W V) => HMG.out V (ext_trans h5 hx) (fun j => m ≤ j) [.slice x.a x.n x.c, .int .i64 x.at_.1.2] x.at_.1 (rmk_of' (q5.ext gStp hx) q7))
    have HPX : Hid (pk x.at_ = !hasG lg x.at_.1) := Lib.hid (by rw [HPK.out])
    cases hh : hasG lg x.at_.1 with
    | true =>
      rw [hh] at HGX
      generalize placeG lg x.at_.1 = pg at *
      gi_wp2_with ((refine ⟨trivial, ?_⟩; gi_at_call 117; refine (callsIn_wide.2 (HGX.out _ (ext_refl _))).mono ?_; rintro e w3 ⟨rfl, hx3⟩; have hz3 := hx3.size; have hz3a : w.heap.size + 2 < w3.heap.size := (by omega); have hz3b : w.heap.size < w3.heap.size := (by omega); have hz3c : Bx < w3.heap.size := (by omega); have p0 := (hx3.cells _ _ hoW).trans h1; have pf0 := (hx3.frz _ _ hoW).trans h2; have p1 := (hx3.cells _ _ hBW).trans q8; have p2 := (hx3.cells _ _ hBW).trans q9; have p3 := (hx3.cells _ _ hBW).trans q10; have p4 := (hx3.cells _ _ (by omega)).trans h2'))
      go_simp
      refine ⟨(others_ext hx3).from _, keeps_ext keeps_refl hx3, .slice ao q.length co, p0, pf0, p4, ?_, ?_, ext_trans h5 hx3⟩
      · rw [List.map_append, List.filter_append, List.map_singleton, filter_one, HPX.out, hh, ← HQ.out]
        simpa using osl_ext gAt h3 hx3
      · rw [List.map_append, H4.out, List.length_append]
        show _ ++ [x.at_] = _
        rw [Q6.out]
        exact (range_map f pre.length).symm
    | false =>
      rw [hh] at HGX
      generalize placeG lg x.at_.1 = pg at *
      gi_wp2_with (first
        | (refine ⟨trivial, ?_⟩; gi_at_call 117; refine (callsIn_wide.2 (HGX.out _ (ext_refl _))).mono ?_; rintro e w3 ⟨rfl, hx3⟩; have hz3 := hx3.size; have hz3a : w.heap.size + 2 < w3.heap.size := (by omega); have hz3b : w.heap.size < w3.heap.size := (by omega); have hz3c : Bx < w3.heap.size := (by omega); have p0 := (hx3.cells _ _ hoW).trans h1; have pf0 := (hx3.frz _ _ hoW).trans h2; have p1 := (hx3.cells _ _ hBW).trans q8; have p2 := (hx3.cells _ _ hBW).trans q9; have p3 := (hx3.cells _ _ hBW).trans q10; have p4 := (hx3.cells _ _ (by omega)).trans h2')
        | (gi_at_builtin; refine wpListIn_app1 gAt rfl (.tmp 20) (.tmp 22) 22 rfl (W0.heap.size + 2) 50 i0 _ 3 40 Try.underlying22 hi0 hz0 hz1' hz2 rfl (by omega) (G := fun j => W0.heap.size + 2 ≤ j) (H := fun j => m ≤ j) (.slice ao q.length co) q rfl (osl_ext gAt h3 (ext_trans hx3 (ext_alloc (ext_refl _) _))) w3.heap.size 0 1 [.slice x.a x.n x.c, .int .i64 x.at_.1.2, .int .u8 (x.at_.2.toNat : Int)] x.at_ rfl rfl (rangeAt3 (by go_simp) (by go_simp) (by go_simp)) (one_at _ _ _ x.at_ ⟨_, rfl, q5, q7⟩) ⟨_, rfl, q5.ext gStp (ext_trans hx3 (ext_alloc (ext_refl _) _)), q7⟩ (fun j hj _ => ⟨(show W0.heap.size + 2 ≤ j by omega), fun e => by have := q3 j e.symm; omega⟩) (by unfold maxLen; omega) (by omega) (by simp; omega) ?_; intro v9 w9 hown9 hg9 hat9; have o9 := (World.cell?_of_block (a := ⟨w.heap.size + 2, 0, none⟩) (hg9.block (w.heap.size + 2) (by simp; omega) (fun e => by have := (hown _ e.symm).1; omega))).trans (show _ = some (.slice ao q.length co) by go_simp); have of9 := (World.frozen?_of_block (a := ⟨w.heap.size + 2, 0, none⟩) (hg9.block (w.heap.size + 2) (by simp; omega) (fun e => by have := (hown _ e.symm).1; omega))).trans (show _ = false by go_simp); have ox9 := (World.cell?_of_block (a := ⟨w.heap.size, 0, none⟩) (hg9.block w.heap.size (by simp; omega) (fun e => by have := (hown _ e.symm).1; omega))).trans (show _ = some (.pointer (some ⟨b, 0, none⟩)) by go_simp); obtain ⟨a9, n9, c9, rfl⟩ := osl_slice hown9))
      refine ⟨((((others_ext hx3).trans (KeepsOthers.alloc w3 _)).trans (KeepsOthers.of_grownBy hg9 fun j o ej hj => ?_)).trans (KeepsOthers.setCell _ _ _)).from _, ?_, .slice a9 n9 c9, by go_simp, by go_simp, by go_simp, ?_, ?_, ?_⟩
      · exact hcl j o ej (by have hj' : j < W.heap.size := (hown j ej).2; rw [← hj]; exact ((Below.heap_alloc w3 _ j (by omega)).trans (Below.block hx3 j hj')).symm)
      · exact keeps_set ((keeps_alloc (keeps_ext keeps_refl hx3) _).trans ⟨hg9.size, fun j hj hlt => hg9.block j hlt (fun e => by have := (hown _ e.symm).1; omega)⟩) (fun _ h => h.1 rfl) _
      · have h9 := osl_keep gAt hown9 (w' := w9.setCell ⟨w.heap.size + 2, 0, none⟩ (.slice a9 n9 c9)) (keeps_set keeps_refl (fun _ h => by
          rcases h with h | h
          · have : W0.heap.size + 2 ≤ w.heap.size + 2 := h; omega
          · have := (osl_lt hown9 _ h.symm).1; have h' : W0.heap.size + 2 ≤ w.heap.size + 2 := this; omega) _)
        rw [List.map_append, List.filter_append, List.map_singleton, filter_one, HPX.out, hh, ← HQ.out]
        simpa using h9
      · rw [List.map_append, H4.out, List.length_append]
        show _ ++ [x.at_] = _
        rw [Q6.out]
        exact (range_map f pre.length).symm
      · exact ext_set (ext_grow (ext_alloc (ext_trans h5 hx3) _) hg9 (fun j hj => by have := (hown j hj).1; omega)) (show w.heap.size ≤ w.heap.size + 2 by omega) _
  case done =>
    rintro xs W hlen ⟨v, h1, h2, h2', h3, h4, h5⟩ hsz hK
    obtain ⟨ao, no, co, rfl⟩ := osl_slice h3
    have hfin := osl_rsl gAt h3 (G := fun j => W0.heap.size + 2 ≤ j) (fun j hj _ => hj) (fun j hj => hj)
    have hWs := h5.size
    have hlx : w.heap.size + 2 < W.heap.size := by omega
    have hbx : w.heap.size < W.heap.size := by omega
    have hbW : b < W.heap.size := by omega
    have hd := HD.out W h5
    have HDW := Lib.hid (fun (V : World) (hx : Ext W V) => HD.out V (ext_trans h5 hx))
    have c0 := hd.c0
    have f0 := hd.fz 0
    obtain ⟨fl, hfl⟩ : ∃ fl, fl = (atomsR ((l, c), sx.data.toList)).filter pk := ⟨_, rfl⟩
    have hfe : (xs.map Yd.at_).filter pk = fl := by rw [hfl, HAT.out, h4, hlen]
    rw [hfe] at hfin
    have hrf : RightA fl := by rw [hfl]; exact filter_right HRA.out
    have hfl60 : fl.length ≤ 300 := by
      rw [hfl]
      refine Nat.le_trans (List.length_filter_le _ _) ?_
      rw [HAT.out]; simp; omega
    have HMR := Lib.hid (fun (V : World) (hx : Ext W V) => (merge_any ((doer_atoms hd).ext gAt hx) (hfin.ext gAt hx) HSR.out hrf hl3 hfl60))
    have HRS := Lib.hid (show mergeA la fl = putNs lg la (atomsR ((l, c), sx.data.toList)) by rw [putNs_merge, hfl, HPK.out])
    have HH5 := Lib.hid h5
    have HKK := Lib.hid hK
    clear h3 h4 hfin hfl hfe hrf hd hK HDW
    have hmx : Try.prog.follows .mixedOrders = true := fol
    have h1n : 1 ≤ 6 := by omega
    gi_wp2
    refine wpIn_only ?_
    refine wpIn_wide.2 ?_
    go_region_law ((go_simp; go_at_call 118; go_must ((with_reducible refine (HMR.out _ (by repeat (first | (with_reducible exact ext_refl _) | (with_reducible assumption) | (with_reducible refine ext_drew ?_) | (with_reducible refine ext_drewN ?_ _) | (with_reducible refine ext_alloc ?_ _) | (with_reducible refine ext_set ?_ (by first | omega | (simp <;> omega)) _) | (with_reducible refine ext_trans ?_ (by with_reducible assumption))))).mono ?_); rintro e w8 ⟨v8, rfl, hv8, hx8⟩; obtain ⟨a8, n8, c8, rfl⟩ := osl_slice hv8; have HV8 := Lib.hid hv8; have HX8 := Lib.hid hx8; have hs8 := hx8.size; (try simp at hs8); have m0 := (hx8.cells b 0 (by first | omega | (simp <;> omega))).trans (show _ = some (.slice av nv cv) by first | assumption | go_simp); have mf := (hx8.frz b 0 (by first | omega | (simp <;> omega))).trans (show _ = false by first | assumption | go_simp); have m1 := (hx8.cells w.heap.size 0 (by first | omega | (simp <;> omega))).trans (show _ = some (.pointer (some ⟨b, 0, none⟩)) by first | assumption | go_simp); clear hv8)))
    all_goals go_wp2
    all_goals dsimp only [onlyN]
    all_goals
      have hxw : Ext w W.drew := ext_drew HH5.out
      have hb8 : b < w8.heap.size := by omega
      have hdf : (w8.setCell ⟨b, 0, none⟩ (.slice a8 n8 c8)).heap[W0.heap.size]? = some (.deferred (some [])) :=
        (Below.heap_setCell w8 ⟨b, 0, none⟩ _ _ (fun e => by have e' : W0.heap.size = b := e; omega)).trans ((Below.block HX8.out _ (show W0.heap.size < W.heap.size by omega)).trans HKK.out)
      have hd8 := HD.out w8 (ext_trans hxw HX8.out)
      refine ⟨by simp, .inl ⟨_, _, rfl, run_takeDeferred hdf, ?_⟩⟩
      refine ⟨.tuple #[], by simp [results, Try.results109, go_sem], rfl, ⟨_, _, doer_new0 (s := (la, lg)) (HD.out w (ext_refl w)) hxw (by rw [← HRS.out]; exact HV8.out) HX8.out HZ.out ?_ ?_ ?_ (fun o => ?_)⟩, ?_⟩
      · refine Keeps.trans (keeps_set keeps_refl (fun _ h => ?_) _) (keeps_putObj (fun h => ?_) _)
        · rcases h with h | h
          · exact h.2 rfl
          · have h' : W.heap.size ≤ b := h; omega
        · rcases h with h | h
          · omega
          · have h' : W.heap.size ≤ W0.heap.size := h; omega
      · refine (cell_putObj (by omega) 0 _).trans ?_
        go_simp
      · refine (cell_putObj (by omega) 1 _).trans ?_
        have := hd8.c1
        go_simp
      · refine (frz_putObj (by omega) o _).trans ?_
        have := hd8.fz o
        go_simp
      · exact kept_putObj (kept_set (kept_trans (kept_ext hxw) (kept_ext HX8.out)) hd8.nz _) (fun h => by have := HZ.out _ h; omega) _
end Go.Proofs.Ytfgfdohppgoajaa
/- Who does deeds: a deed. -/
namespace Go.Proofs.Ytfgfdohppgoajaa
open Go Go.RowKit Go.BigFrame Cp

theorem marksN_succ (m : Mk) (k : Nat) : marksN m (k + 1) = marksN m k ++ [afterM m (k : Int)] := by unfold marksN; rw [List.range_succ, List.map_append]; rfl
theorem putGs_snoc (l ms : List Mk) (m : Mk) : putGs l (ms ++ [m]) = putG (putGs l ms) m := by simp [putGs]
theorem rrn_of_de {F : Nat → Prop} {w : World} {v s u : Value} {d : De} (h : RDe F w [.int .i64 d.kind, v, .int .i64 d.run.1.2, s, u, .int .i64 d.mark.2, .int .i64 d.many] d) : RRn F w [v, .int .i64 d.run.1.2, s] d.run ∧ RMk F w [u, .int .i64 d.mark.2] d.mark := by
  obtain ⟨v', s', u', e, _, h1, h2, h3, h4, h5, _⟩ := h
  simp at e
  obtain ⟨rfl, rfl, rfl⟩ := e
  exact ⟨⟨_, _, rfl, h1, h2, h3⟩, ⟨_, rfl, h4, h5⟩⟩
set_option maxRecDepth 100000 in
set_option maxHeartbeats 4000000 in
theorem one_any {Z F : Nat → Prop} {w : World} {B b : Nat} {s : St} {v u : Value} {cs : List Value} {d : De} (h : DoerIs Z B b s w v u) (hde : RDe F w cs d) (hc : checkD d = 0) (hF : ∀ j, F j → Z j) (hZ : ∀ j, Z j → j < w.heap.size)
    (hs : RightA s.1) (hg : SortedG s.2) (hl3 : s.1.length ≤ 300) (hn : s.2.length ≤ 600) :
    Calls Try.prog 84 #[.pointer (some ⟨b, 0, none⟩), .agg cs.toArray] w (fun e w' => e = .returned (.bool (!tooMuch (doDeed s d))) ∧ DoerAt Z B b (doDeed s d) w' ∧ Kept Z w w') := by
  have hbw := doer_lt h
  obtain ⟨v0, x0, u0, rfl, hk, h1, h2, h3, h4, h5, h6⟩ := hde
  have hboth := rrn_of_de ⟨v0, x0, u0, rfl, hk, h1, h2, h3, h4, h5, h6⟩
  obtain ⟨a1, n1, c1, rfl⟩ := h1.slice
  obtain ⟨a2, n2, c2, rfl⟩ := h4.slice
  obtain ⟨sx, rfl, _⟩ := tx_bytes h3
  obtain ⟨hrn, hmk⟩ := hboth
  have HRN := Lib.hid (fun (W : World) (hx : Ext w W) => gRn.ext hrn hx)
  obtain ⟨Y, hY⟩ : ∃ Y : Nat → Prop, Y = fun j => Z j ∨ j = w.heap.size := ⟨_, rfl⟩
  have HMK := Lib.hid (show RMk Y w [.slice a2 n2 c2, .int .i64 d.mark.2] d.mark from gMk.more (fun j hj _ => by rw [hY]; exact .inl (hF j hj)) hmk)
  have HDZ := Lib.hid (fun (W : World) (hx : Ext w W) => doer_ext h hx)
  have HDY := Lib.hid (fun (W : World) (hx : Ext w W) => doer_ext (doer_z (Y := Y) h (by rw [hY]; exact fun j hj => hj.elim .inl (fun e => .inr (by omega)))) hx)
  have HYZ := Lib.hid (show ∀ j, Z j → Y j by rw [hY]; exact fun j hj => .inl hj)
  have HYB := Lib.hid (show Y w.heap.size by rw [hY]; exact .inr rfl)
  have HYL := Lib.hid (show ∀ j, Y j → j ≤ w.heap.size by rw [hY]; exact fun j hj => hj.elim (fun h => Nat.le_of_lt (hZ j h)) (fun h => by omega))
  have HZ := Lib.hid hZ
  have HS := Lib.hid hs
  have HG := Lib.hid hg
  clear h h1 h2 h3 h4 h5 h6 hk hrn hmk hY hF hZ hs hg
  by_cases hkd : d.kind = 1
  · obtain ⟨hc1, hc2, hc3⟩ := deed_put hc hkd
    have hE : doDeed s d = (putNs s.2 s.1 (atomsR d.run), s.2) := by unfold doDeed; rw [if_pos hkd]
    rw [hE]
    have HPU := Lib.hid (fun (W : World) (hx : Ext w W) => dput_any (HDZ.out W hx) (HRN.out W hx) hc1 (fun j hj => Nat.lt_of_lt_of_le (HZ.out j hj) hx.size) HS.out HG.out hl3 (by omega))
    have hkk : (d.kind == 1) = true := by simpa using hkd
    obtain ⟨la, lg⟩ := s
    simp only at HPU hE hl3 hn ⊢
    generalize putNs lg la (atomsR d.run) = la' at *
    clear hE hc HMK HDY HYZ HYB HYL HDZ HRN
    go_enter Try.func84, Try.ntmps84
    go_wp2_with (first | (go_at_call 109; go_must ((with_reducible refine (HPU.out _ (by repeat (first | (with_reducible exact ext_refl _) | (with_reducible assumption) | (with_reducible refine ext_drew ?_) | (with_reducible refine ext_drewN ?_ _) | (with_reducible refine ext_alloc ?_ _) | (with_reducible refine ext_set ?_ (by first | omega | (simp <;> omega)) _) | (with_reducible refine ext_trans ?_ (by with_reducible assumption))))).mono ?_); rintro e w3 ⟨rfl, ⟨v3, u3, hd3⟩, hk3⟩; obtain ⟨a3, n3, c3, rfl⟩ := osl_slice hd3.oa; obtain ⟨a4, n4, c4, rfl⟩ := osl_slice hd3.og; have HD3 := Lib.hid hd3; have HK3 := Lib.hid hk3; have p0 := hd3.c0; have p1 := hd3.c1; obtain rfl := (osl_len hd3.oa).1; obtain rfl := (osl_len hd3.og).1; clear hd3 hk3)))
    all_goals go_ret
    all_goals refine ⟨rb ?_, ⟨_, _, HD3.out⟩, kept_trans (kept_ext (by repeat (first | (with_reducible exact ext_refl _) | (with_reducible assumption) | (with_reducible refine ext_drew ?_) | (with_reducible refine ext_drewN ?_ _) | (with_reducible refine ext_alloc ?_ _) | (with_reducible refine ext_set ?_ (by first | omega | (simp <;> omega)) _) | (with_reducible refine ext_trans ?_ (by with_reducible assumption))))) HK3.out⟩
    all_goals (rw [Bool.eq_iff_iff]; simp [tooMuch]; omega)
  · obtain ⟨hc1, hc2, ⟨n, hn0, hn1, hn2⟩, hc4, hc5, hc6⟩ := deed_take hc hkd
    have hE : doDeed s d = (takeA s.1 (marksN d.mark n), putGs s.2 (marksN d.mark n)) := by
      have : marksD d = marksN d.mark n := by unfold marksD; rw [if_neg hkd, hn0]; simp
      unfold doDeed; rw [if_neg hkd, this]
    rw [hE]
    have hkk : (d.kind == 1) = false := by simpa using hkd
    obtain ⟨la, lg⟩ := s
    simp only at hE hl3 hn HS HG ⊢
    have HAF := Lib.hid (fun (k : Nat) (hk : k < n) (W : World) (hx : RMk Y W [.slice a2 n2 c2, .int .i64 d.mark.2] d.mark) => after_any (k := (k : Int)) hx (check_len hc2) (check_ne hc2) (check_digit hc2) (check_clock hc2) ⟨by omega, by omega⟩)
    generalize hdm : d.mark = dm at *
    generalize d.kind = dk at *
    generalize d.many = dn at *
    generalize d.run = dr at *
    subst hn0
    clear hc1 hkd hc hE HDZ HRN hc6 hc5 hc4 hdm
    go_enter Try.func84, Try.ntmps84
    go_wp2_with fail
    refine wp_name (fun w1 ew1 => ?_)
    have b4 : w1.cell? ⟨w.heap.size, 4, none⟩ = some (.slice a2 n2 c2) := by rw [ew1]; go_simp
    have b5 : w1.cell? ⟨w.heap.size, 5, none⟩ = some (.int .i64 dm.2) := by rw [ew1]; go_simp
    have hw1 : Ext w w1 := by rw [ew1]; exact (by repeat (first | (with_reducible exact ext_refl _) | (with_reducible assumption) | (with_reducible refine ext_drew ?_) | (with_reducible refine ext_drewN ?_ _) | (with_reducible refine ext_alloc ?_ _) | (with_reducible refine ext_set ?_ (by first | omega | (simp <;> omega)) _) | (with_reducible refine ext_trans ?_ (by with_reducible assumption))))
    have hs1 : w.heap.size < w1.heap.size := by rw [ew1]; first | omega | (simp <;> omega)
    clear ew1
    have HW1 := Lib.hid hw1
    go_loopw [15] (fun iv wr => ∃ k : Nat, k ≤ n ∧ iv = .int .i64 k ∧ Hid (DoerAt Y B b (takeA la (marksN dm k), putGs lg (marksN dm k)) wr) ∧ Hid (Kept Y w1 wr)) (fun iv _ => n - (intOf iv).toNat)
    case atStart => exact ⟨0, Nat.zero_le _, rfl, Lib.hid ⟨_, _, by have := HDY.out w1 HW1.out; simpa [marksN, takeA_nil, putGs] using this⟩, Lib.hid kept_refl⟩
    case round =>
      obtain ⟨k, hk, rfl, HD, HK⟩ := hrel
      have x4 := (HK.out.cell HYB.out hs1 4).trans b4
      have x5 := (HK.out.cell HYB.out hs1 5).trans b5
      have hsr := HK.out.size
      have hbr : w.heap.size < wr.heap.size := by omega
      obtain ⟨v3, u3, hd3⟩ := HD.out
      have HD3 := Lib.hid hd3
      have HMR := Lib.hid (show RMk Y wr [.slice a2 n2 c2, .int .i64 dm.2] dm from gMk.keep (kept_trans (kept_ext HW1.out) HK.out).keeps HMK.out)
      clear b4 b5 hd3
      by_cases hlt : k < n
      · have HTK := Lib.hid (fun (W : World) (hx : Ext wr W) (ds : List Value) (m : Mk) (hm : RMk (fun j => wr.heap.size ≤ j) W ds m) => take_any HD3.out hx hm (fun j hj => by have := HYL.out j hj; have := hx.size; omega) (takeA_right HS.out).1 (putGs_sorted HG.out) (Nat.le_trans (takeA_len _ _) (by omega)) (Nat.le_trans (putGs_len _ _) (by rw [marksN_len]; show lg.length + k ≤ 1000; omega)))
        have hex : (takeA (takeA la (marksN dm k)) [afterM dm k], putG (putGs lg (marksN dm k)) (afterM dm k)) = (takeA la (marksN dm (k + 1)), putGs lg (marksN dm (k + 1))) := by rw [marksN_succ, takeA_one, putGs_snoc]
        have HEX := Lib.hid hex
        have HA := Lib.hid (HAF.out k hlt)
        clear hex
        go_wp2_with (first | (go_at_call 89; go_must ((with_reducible refine (HA.out _ HMR.out).mono ?_); rintro e w3 ⟨cs3, rfl, hm3, hx3⟩; have HM3 := Lib.hid (omk_mk hm3); obtain ⟨v5, rfl, hv5, hi5⟩ := hm3; obtain ⟨a5, n5, c5, rfl⟩ := osl_slice hv5; have HX3 := Lib.hid hx3; have hs3 := hx3.size; clear hv5)) | (go_at_call 110; go_must ((with_reducible refine (HTK.out _ HX3.out _ _ HM3.out).mono ?_); rintro e w4 ⟨rfl, ht4⟩; have HT4 := Lib.hid ht4; clear ht4)))
        go_roundw
        case rel =>
          exact ⟨k + 1, by omega, by go_num, Lib.hid (by have := HT4.out.1; rw [HEX.out] at this; exact this), Lib.hid (kept_trans HK.out (kept_trans (kept_ext HX3.out) HT4.out.2))⟩
        case measure => simp [intOf]; omega
      · obtain rfl : k = n := by omega
        obtain ⟨a3, n3, c3, rfl⟩ := osl_slice HD3.out.oa
        obtain ⟨a4, n4, c4, rfl⟩ := osl_slice HD3.out.og
        have p0 := HD3.out.c0
        have p1 := HD3.out.c1
        have e3 := (osl_len HD3.out.oa).1
        have e4 := (osl_len HD3.out.og).1
        simp only at e3 e4
        have HFIN := Lib.hid (show DoerAt Z B b (takeA la (marksN dm k), putGs lg (marksN dm k)) wr from ⟨_, _, doer_z HD3.out (fun j hj => .inl (HYZ.out j hj))⟩)
        have HKF := Lib.hid ((kept_trans (kept_ext HW1.out) HK.out).less HYZ.out)
        subst e3 e4
        clear HD HD3 HK
        go_wp2
        all_goals go_ret
        all_goals refine ⟨rb ?_, HFIN.out, HKF.out⟩
        all_goals (rw [Bool.eq_iff_iff]; simp [tooMuch]; omega)
end Go.Proofs.Ytfgfdohppgoajaa
/- Deeds that are right, of a state that is. -/
namespace Go.Proofs.Ytfgfdohppgoajaa
open Go Go.RowKit Go.BigFrame Cp

/-- a state of one's own: two rows, and neither is the other's, nor holds the other's elements -/
def OwnSt (B : Nat) (s : St) (W : World) (v u : Value) : Prop := OSl RAt 3 50 B (fun j => B ≤ j ∧ some j ≠ u.ownBlock) W v s.1 ∧ OSl RMk 2 29 B (fun j => B ≤ j ∧ some j ≠ v.ownBlock) W u s.2 ∧ ∀ j, v.ownBlock = some j → u.ownBlock ≠ some j
/-- what doing deeds comes to -/
def IsRawS (o : Option St) (w : World) (e : Ending) (w' : World) : Prop := match o with
  | none => e = .returned (.tuple #[.agg #[.slice none 0 0, .slice none 0 0], .bool false]) ∧ Ext w w'
  | some t => ∃ v u, e = .returned (.tuple #[.agg #[v, u], .bool true]) ∧ OwnSt w.heap.size t w' v u ∧ Ext w w'
theorem ownSt_of {B b base : Nat} {Z : Nat → Prop} {s : St} {w w' : World} {v u : Value} (h : DoerIs Z B b s w v u) (hb : base ≤ B) (hk : Keeps (fun j => B ≤ j) w w') : OwnSt base s w' v u := by
  have h1 := osl_lt h.oa
  have h2 := osl_lt h.og
  refine ⟨osl_more gAt (osl_base hb (osl_keep gAt h.oa (hk.weaken (fun j _ hj => ?_)))) (fun k hk _ _ => ⟨by omega, hk.2.2⟩), osl_more gMk (osl_base hb (osl_keep gMk h.og (hk.weaken (fun j _ hj => ?_)))) (fun k hk _ _ => ⟨by omega, hk.2.2⟩), fun j hj => (h.ra j hj).1⟩
  · rcases hj with hj | hj
    · exact hj.1
    · exact (h1 j hj.symm).1
  · rcases hj with hj | hj
    · exact hj.1
    · exact (h2 j hj.symm).1
/-- a state of one's own, that lies in a block that is new -/
theorem doer_of {Z : Nat → Prop} {B b : Nat} {s : St} {w w' : World} {v u : Value} (h1 : OSl RAt 3 50 B (fun j => B ≤ j ∧ some j ≠ u.ownBlock) w v s.1) (h2 : OSl RMk 2 29 B (fun j => B ≤ j ∧ some j ≠ v.ownBlock) w u s.2) (h3 : ∀ j, v.ownBlock = some j → u.ownBlock ≠ some j)
    (hx : Ext w w') (hb : w.heap.size ≤ b) (hB : B ≤ b) (c0 : w'.cell? ⟨b, 0, none⟩ = some v) (c1 : w'.cell? ⟨b, 1, none⟩ = some u) (fz : ∀ o, w'.frozen? ⟨b, o, none⟩ = false) (hZ : ∀ j, Z j → j < B) : DoerIs Z B b s w' v u := by
  have r1 := osl_lt h1
  have r2 := osl_lt h2
  have h1' := osl_ext gAt (osl_more gAt h1 (G := fun j => B ≤ j ∧ j ≠ b ∧ some j ≠ u.ownBlock) (fun k hk hl _ => ⟨hk.1, by omega, hk.2⟩)) hx
  have h2' := osl_ext gMk (osl_more gMk h2 (G := fun j => B ≤ j ∧ j ≠ b ∧ some j ≠ v.ownBlock) (fun k hk hl _ => ⟨hk.1, by omega, hk.2⟩)) hx
  exact ⟨c0, c1, fz, h1', h2', fun j hj => ⟨h3 j hj, by have := (r1 j hj).2; omega, fun hz => by have := (r1 j hj).1; have := hZ j hz; omega⟩, fun j hj => ⟨by have := (r2 j hj).2; omega, fun hz => by have := (r2 j hj).1; have := hZ j hz; omega⟩, hB, fun hz => by have := hZ b hz; omega⟩
set_option maxRecDepth 100000 in
set_option maxHeartbeats 4000000 in
theorem rawS_any {F G : Nat → Prop} {w : World} {cs : List Value} {s : St} {x : Value} {l : List De} (h : RSt F w cs s) (hl : RSl RDe 7 G w x l) (hs : FitS s) (hd : ∀ d ∈ l, checkD d = 0) :
    Calls Try.prog 38 #[.agg cs.toArray, x] w (IsRawS (doDs s l) w) := by
  have HOW := Lib.hid (fun (W : World) (hx : Ext w W) => ownState_any (gSt.ext h hx) (by have := hs.2.1; omega) (by have := hs.2.2; omega) (fun a ha => check_len (hs.1.1.2 a ha).1) (fun m hm => check_len (hs.1.2.2.1 m hm)))
  have hl' : RSl RDe 7 (fun j => j < w.heap.size) w x l := RSl.more gDe (fun _ _ hk => hk) hl
  have HL := Lib.hid (fun (W : World) (hx : Ext w W) => hl'.ext gDe hx)
  obtain ⟨v, u, rfl, h1, h2⟩ := h
  obtain ⟨a0, n0, c0, rfl⟩ := h1.slice
  obtain ⟨a1, n1, c1, rfl⟩ := h2.slice
  obtain ⟨a2, n2, c2, rfl⟩ := hl'.slice
  obtain rfl : n2 = l.length := hl'.len.1
  have hll : l.length ≤ 9223372036854775807 := by have := hl'.len; unfold maxLen at this; omega
  have HFS := Lib.hid hs
  have HD := Lib.hid hd
  clear h1 h2 hl hl' hs hd
  go_enter Try.func38, Try.ntmps38
  go_wp2_with (first | (go_at_call 83; go_must ((with_reducible refine (HOW.out _ (by repeat (first | (with_reducible exact ext_refl _) | (with_reducible assumption) | (with_reducible refine ext_drew ?_) | (with_reducible refine ext_drewN ?_ _) | (with_reducible refine ext_alloc ?_ _) | (with_reducible refine ext_set ?_ (by first | omega | (simp <;> omega)) _) | (with_reducible refine ext_trans ?_ (by with_reducible assumption))))).mono ?_); rintro e w1 ⟨v1, u1, rfl, ho1, ho2, ho3, hx1⟩; obtain ⟨a3, n3, c3, rfl⟩ := osl_slice ho1; obtain ⟨a4, n4, c4, rfl⟩ := osl_slice ho2; simp only [World.size_alloc, Nat.add_assoc, Nat.reduceAdd] at ho1 ho2; have HO1 : Hid (OSl RAt 3 50 (w.heap.size + 2) (fun j => w.heap.size + 2 ≤ j ∧ some j ≠ (Value.slice a4 n4 c4).ownBlock) w1 (.slice a3 n3 c3) s.1) := Lib.hid ho1; have HO2 : Hid (OSl RMk 2 29 (w.heap.size + 2) (fun j => w.heap.size + 2 ≤ j ∧ some j ≠ (Value.slice a3 n3 c3).ownBlock) w1 (.slice a4 n4 c4) s.2) := Lib.hid ho2; have HO3 := Lib.hid ho3; have HX1 := Lib.hid hx1; have hs1 := hx1.size; (try simp at hs1); have q0 := (hx1.cells (w.heap.size + 1) 0 (by first | omega | (simp <;> omega))).trans (show _ = some (.slice none 0 0) by first | assumption | go_simp); have q1 := (hx1.cells (w.heap.size + 1) 1 (by first | omega | (simp <;> omega))).trans (show _ = some (.slice none 0 0) by first | assumption | go_simp); have qf0 := (hx1.frz (w.heap.size + 1) 0 (by first | omega | (simp <;> omega))).trans (show _ = false by first | assumption | go_simp); have qf1 := (hx1.frz (w.heap.size + 1) 1 (by first | omega | (simp <;> omega))).trans (show _ = false by first | assumption | go_simp); have HXW := Lib.hid (show Ext w w1 from ext_trans (by repeat (first | (with_reducible exact ext_refl _) | (with_reducible assumption) | (with_reducible refine ext_drew ?_) | (with_reducible refine ext_drewN ?_ _) | (with_reducible refine ext_alloc ?_ _) | (with_reducible refine ext_set ?_ (by first | omega | (simp <;> omega)) _) | (with_reducible refine ext_trans ?_ (by with_reducible assumption)))) hx1); clear ho1 ho2 ho3 hx1)))
  refine wp_name (fun w2 ew2 => ?_)
  have hB2 : w.heap.size + 2 ≤ w1.heap.size := by omega
  have hl1 : w.heap.size + 1 < w1.heap.size := by omega
  have r0 : w2.cell? ⟨w.heap.size + 1, 0, none⟩ = some (.slice none 0 0) := by rw [ew2]; go_simp
  have r1 : w2.cell? ⟨w.heap.size + 1, 1, none⟩ = some (.slice none 0 0) := by rw [ew2]; go_simp
  have rf0 : w2.frozen? ⟨w.heap.size + 1, 0, none⟩ = false := by rw [ew2]; go_simp
  have rf1 : w2.frozen? ⟨w.heap.size + 1, 1, none⟩ = false := by rw [ew2]; go_simp
  have HW2 := Lib.hid (show Ext w w2 by rw [ew2]; exact ext_alloc HXW.out _)
  have hs2 : w1.heap.size < w2.heap.size := by rw [ew2]; simp
  obtain ⟨Z, hZ⟩ : ∃ Z : Nat → Prop, Z = fun j => j < w.heap.size + 2 := ⟨_, rfl⟩
  have HZL := Lib.hid (show ∀ j, j < w.heap.size + 2 → Z j by rw [hZ]; exact fun j hj => hj)
  have HZU := Lib.hid (show ∀ j, Z j → j < w.heap.size + 2 by rw [hZ]; exact fun j hj => hj)
  have HDR := Lib.hid (show DoerIs Z (w.heap.size + 2) w1.heap.size s w2 (.slice a3 n3 c3) (.slice a4 n4 c4) by
    rw [ew2]
    exact doer_of HO1.out HO2.out HO3.out (ext_alloc (ext_refl _) _) (Nat.le_refl _) hB2 (by go_simp) (by go_simp) (fun o => by go_simp) HZU.out)
  clear ew2 hZ q0 q1 qf0 qf1 HO1 HO2 HO3 HX1 HXW HOW
  go_loopw [15] (fun iv wr => ∃ (k : Nat) (t : St), k ≤ l.length ∧ iv = .int .i64 k ∧ Hid (doDs s (l.take k) = some t) ∧ Hid (DoerAt Z (w.heap.size + 2) w1.heap.size t wr) ∧ Hid (Kept Z w2 wr)) (fun iv _ => l.length - (intOf iv).toNat)
  case atStart => exact ⟨0, s, Nat.zero_le _, rfl, Lib.hid rfl, Lib.hid ⟨_, _, HDR.out⟩, Lib.hid kept_refl⟩
  case round =>
    obtain ⟨k, t, hk, rfl, HT, HDO, HK⟩ := hrel
    have HX := Lib.hid (HK.out.toExt HW2.out (fun j hj => HZL.out j (by omega)))
    have hsr := HK.out.size
    have hwr : w.heap.size + 1 < wr.heap.size := by omega
    have hwn : ¬ w.heap.size + 1 = wr.heap.size := by omega
    have x0 := (HK.out.cell (HZL.out (w.heap.size + 1) (by omega)) (by omega) 0).trans r0
    have x1 := (HK.out.cell (HZL.out (w.heap.size + 1) (by omega)) (by omega) 1).trans r1
    have xf0 := (HK.out.frz (HZL.out (w.heap.size + 1) (by omega)) (by omega) 0).trans rf0
    have xf1 := (HK.out.frz (HZL.out (w.heap.size + 1) (by omega)) (by omega) 1).trans rf1
    have HFT := Lib.hid (doDs_fit HFS.out (fun d hd => HD.out d (List.mem_of_mem_take hd)) HT.out)
    obtain ⟨v3, u3, hd3⟩ := HDO.out
    have HD3 := Lib.hid hd3
    clear hd3 r0 r1 rf0 rf1
    by_cases hlt : k < l.length
    · obtain ⟨b, o, d, b1, m1, e1, b2, m2, e2, sx, rfl, hb, ek, hde, y0, y1, y2, y3, y4, y5, y6⟩ := deed_at (HL.out wr HX.out) hlt
      have hcd := HD.out d (List.mem_of_getElem? ek)
      have HON := Lib.hid (fun (W : World) (hx : Ext wr W) => one_any (doer_ext HD3.out hx) (gDe.ext hde hx) hcd (fun j hj => HZL.out j (by omega)) (fun j hj => by have := HZU.out j hj; have := hx.size; omega) HFT.out.1.1 HFT.out.1.2.1 HFT.out.2.1 HFT.out.2.2)
      obtain ⟨hn1, hn2⟩ := doDs_take ek HT.out
      have HN1 := Lib.hid hn1
      have HN2 := Lib.hid hn2
      have hbr : b < wr.heap.size := hb
      have hbn : ¬ b = wr.heap.size := by omega
      clear ek hde hcd hn1 hn2
      cases hm : tooMuch (doDeed t d) with
      | true =>
        rw [hm] at HON
        have HNN := Lib.hid (HN1.out hm)
        clear hm HN1 HN2
        go_wp2_with (first | (go_at_call 84; go_must ((with_reducible refine (HON.out _ (by repeat (first | (with_reducible exact ext_refl _) | (with_reducible assumption) | (with_reducible refine ext_drew ?_) | (with_reducible refine ext_drewN ?_ _) | (with_reducible refine ext_alloc ?_ _) | (with_reducible refine ext_set ?_ (by first | omega | (simp <;> omega)) _) | (with_reducible refine ext_trans ?_ (by with_reducible assumption))))).mono ?_); rintro e w5 ⟨rfl, hd5, hk5⟩; have HD5 := Lib.hid hd5; have hs5 := hk5.size; (try simp at hs5); have z0 := (hk5.cell (HZL.out (w.heap.size + 1) (by omega)) (by first | omega | (simp <;> omega)) 0).trans (show _ = some (.slice none 0 0) by first | assumption | go_simp); have z1 := (hk5.cell (HZL.out (w.heap.size + 1) (by omega)) (by first | omega | (simp <;> omega)) 1).trans (show _ = some (.slice none 0 0) by first | assumption | go_simp); have zf0 := (hk5.frz (HZL.out (w.heap.size + 1) (by omega)) (by first | omega | (simp <;> omega)) 0).trans (show _ = false by first | assumption | go_simp); have zf1 := (hk5.frz (HZL.out (w.heap.size + 1) (by omega)) (by first | omega | (simp <;> omega)) 1).trans (show _ = false by first | assumption | go_simp); have HK5 := Lib.hid (kept_trans (kept_trans HK.out (kept_ext (by repeat (first | (with_reducible exact ext_refl _) | (with_reducible assumption) | (with_reducible refine ext_drew ?_) | (with_reducible refine ext_drewN ?_ _) | (with_reducible refine ext_alloc ?_ _) | (with_reducible refine ext_set ?_ (by first | omega | (simp <;> omega)) _) | (with_reducible refine ext_trans ?_ (by with_reducible assumption)))))) hk5); have HX5 := Lib.hid (HK5.out.toExt HW2.out (fun j hj => HZL.out j (by omega))); clear hd5 hk5)))
        refine bodyPost_ret (v := .tuple #[.agg #[.slice none 0 0, .slice none 0 0], .bool false]) (by simp [results, Try.results38, go_sem, z0, z1]) rfl (by rw [HNN.out]; exact ⟨rfl, ext_set (ext_set HX5.out (by show w.heap.size ≤ w.heap.size + 1; omega) _) (by show w.heap.size ≤ w.heap.size + 1; omega) _⟩)
      | false =>
        rw [hm] at HON
        have HNN := Lib.hid (HN2.out hm)
        clear hm HN1 HN2
        go_wp2_with (first | (go_at_call 84; go_must ((with_reducible refine (HON.out _ (by repeat (first | (with_reducible exact ext_refl _) | (with_reducible assumption) | (with_reducible refine ext_drew ?_) | (with_reducible refine ext_drewN ?_ _) | (with_reducible refine ext_alloc ?_ _) | (with_reducible refine ext_set ?_ (by first | omega | (simp <;> omega)) _) | (with_reducible refine ext_trans ?_ (by with_reducible assumption))))).mono ?_); rintro e w5 ⟨rfl, hd5, hk5⟩; have HD5 := Lib.hid hd5; have hs5 := hk5.size; (try simp at hs5); have z0 := (hk5.cell (HZL.out (w.heap.size + 1) (by omega)) (by first | omega | (simp <;> omega)) 0).trans (show _ = some (.slice none 0 0) by first | assumption | go_simp); have z1 := (hk5.cell (HZL.out (w.heap.size + 1) (by omega)) (by first | omega | (simp <;> omega)) 1).trans (show _ = some (.slice none 0 0) by first | assumption | go_simp); have zf0 := (hk5.frz (HZL.out (w.heap.size + 1) (by omega)) (by first | omega | (simp <;> omega)) 0).trans (show _ = false by first | assumption | go_simp); have zf1 := (hk5.frz (HZL.out (w.heap.size + 1) (by omega)) (by first | omega | (simp <;> omega)) 1).trans (show _ = false by first | assumption | go_simp); have HK5 := Lib.hid (kept_trans (kept_trans HK.out (kept_ext (by repeat (first | (with_reducible exact ext_refl _) | (with_reducible assumption) | (with_reducible refine ext_drew ?_) | (with_reducible refine ext_drewN ?_ _) | (with_reducible refine ext_alloc ?_ _) | (with_reducible refine ext_set ?_ (by first | omega | (simp <;> omega)) _) | (with_reducible refine ext_trans ?_ (by with_reducible assumption)))))) hk5); have HX5 := Lib.hid (HK5.out.toExt HW2.out (fun j hj => HZL.out j (by omega))); clear hd5 hk5)))
        go_roundw
        case rel => exact ⟨k + 1, _, by omega, by go_num, HNN, HD5, HK5⟩
        case measure => simp [intOf]; omega
    · obtain rfl : k = l.length := by omega
      have HTT := Lib.hid (show doDs s l = some t by have := HT.out; rwa [List.take_of_length_le (Nat.le_refl _)] at this)
      obtain ⟨a5, n5, c5, rfl⟩ := osl_slice HD3.out.oa
      obtain ⟨a6, n6, c6, rfl⟩ := osl_slice HD3.out.og
      have p0 := HD3.out.c0
      have p1 := HD3.out.c1
      have hne : ¬ w1.heap.size = w.heap.size + 1 := by omega
      have hne' : ¬ w.heap.size + 1 = w1.heap.size := by omega
      clear HDO
      go_wp2
      refine bodyPost_ret (v := .tuple #[.agg #[.slice a5 n5 c5, .slice a6 n6 c6], .bool true]) (by simp [results, Try.results38, go_sem, x0, x1]) rfl (by
        rw [HTT.out]
        exact ⟨_, _, rfl, ownSt_of HD3.out (by omega) (keeps_set (keeps_set keeps_refl (fun _ h => by have h' : w.heap.size + 2 ≤ w.heap.size + 1 := h; omega) _) (fun _ h => by have h' : w.heap.size + 2 ≤ w.heap.size + 1 := h; omega) _), ext_set (ext_set HX.out (by show w.heap.size ≤ w.heap.size + 1; omega) _) (by show w.heap.size ≤ w.heap.size + 1; omega) _⟩)
end Go.Proofs.Ytfgfdohppgoajaa
/- Deeds, with errors. -/
namespace Go.Proofs.Ytfgfdohppgoajaa
open Go Go.RowKit Go.BigFrame Cp

/-- a state and an errno -/
def IsStE (t : St) (er : Int) (w : World) (e : Ending) (w' : World) : Prop := ∃ v u, e = .returned (.tuple #[.agg #[v, u], .int .i64 er]) ∧ OwnSt w.heap.size t w' v u ∧ Ext w w'
theorem ownSt_nil {B : Nat} {w : World} : OwnSt B ([], []) w (.slice none 0 0) (.slice none 0 0) := ⟨osl_nil, osl_nil, fun j h => by simp [Value.ownBlock] at h⟩
theorem ownSt_keep {B B' : Nat} {s : St} {w w' : World} {v u : Value} (h : OwnSt B s w v u) (hb : B' ≤ B) (hk : Keeps (fun j => B ≤ j) w w') : OwnSt B' s w' v u := by
  obtain ⟨h1, h2, h3⟩ := h
  have r1 := osl_lt h1
  have r2 := osl_lt h2
  refine ⟨osl_more gAt (osl_base hb (osl_keep gAt h1 (hk.weaken (fun j _ hj => ?_)))) (fun k hk _ _ => ⟨by omega, hk.2⟩), osl_more gMk (osl_base hb (osl_keep gMk h2 (hk.weaken (fun j _ hj => ?_)))) (fun k hk _ _ => ⟨by omega, hk.2⟩), h3⟩
  · rcases hj with hj | hj
    · exact hj.1
    · exact (r1 j hj.symm).1
  · rcases hj with hj | hj
    · exact hj.1
    · exact (r2 j hj.symm).1
set_option maxRecDepth 100000 in
set_option maxHeartbeats 4000000 in
theorem all_any {F G : Nat → Prop} {w : World} {cs : List Value} {s : St} {x : Value} {l : List De} (h : RSt F w cs s) (hl : RSl RDe 7 G w x l) :
    Calls Try.prog 11 #[.agg cs.toArray, x] w (IsStE (allV s l) (allE s l) w) := by
  have HCH := Lib.hid (fun (W : World) (hx : Ext w W) => checkStateP_any (gSt.ext h hx))
  have HRW := Lib.hid (fun (W : World) (hx : Ext w W) (he : errL s l = 0) => rawS_any (gSt.ext h hx) (hl.ext gDe hx) (allE_run he).1 (allE_run he).2.1)
  have HL := Lib.hid (fun (W : World) (hx : Ext w W) => hl.ext gDe hx)
  obtain ⟨v, u, rfl, h1, h2⟩ := h
  obtain ⟨a0, n0, c0, rfl⟩ := h1.slice
  obtain ⟨a1, n1, c1, rfl⟩ := h2.slice
  obtain ⟨a2, n2, c2, rfl⟩ := hl.slice
  obtain rfl : n2 = l.length := hl.len.1
  have hll : l.length ≤ 9223372036854775807 := by have := hl.len; unfold maxLen at this; omega
  have HST := Lib.hid (allAt_start s l)
  generalize hes : checkS s = es at *
  clear h1 h2 hl hes
  go_enter Try.func11, Try.ntmps11
  go_wp2_with (first | (go_at_call 16; go_must ((with_reducible refine (HCH.out _ (by repeat (first | (with_reducible exact ext_refl _) | (with_reducible assumption) | (with_reducible refine ext_drew ?_) | (with_reducible refine ext_drewN ?_ _) | (with_reducible refine ext_alloc ?_ _) | (with_reducible refine ext_set ?_ (by first | omega | (simp <;> omega)) _) | (with_reducible refine ext_trans ?_ (by with_reducible assumption))))).mono ?_); rintro e w1 ⟨rfl, hx1⟩; have hs1 := hx1.size; (try simp at hs1); have hlb0 : w.heap.size < w1.heap.size := (by omega); have hlb1 : w.heap.size + 1 < w1.heap.size := (by omega); have q0 := (hx1.cells (w.heap.size + 1) 0 (by first | omega | (simp <;> omega))).trans (show _ = some (.slice none 0 0) by first | assumption | go_simp); have q1 := (hx1.cells (w.heap.size + 1) 1 (by first | omega | (simp <;> omega))).trans (show _ = some (.slice none 0 0) by first | assumption | go_simp); have q2 := (hx1.cells (w.heap.size) 0 (by first | omega | (simp <;> omega))).trans (show _ = some (.slice a0 n0 c0) by first | assumption | go_simp); have q3 := (hx1.cells (w.heap.size) 1 (by first | omega | (simp <;> omega))).trans (show _ = some (.slice a1 n1 c1) by first | assumption | go_simp); have qf0 := (hx1.frz (w.heap.size + 1) 0 (by first | omega | (simp <;> omega))).trans (show _ = false by first | assumption | go_simp); have qf1 := (hx1.frz (w.heap.size + 1) 1 (by first | omega | (simp <;> omega))).trans (show _ = false by first | assumption | go_simp); have HXW := Lib.hid (show Ext w w1 from ext_trans (by repeat (first | (with_reducible exact ext_refl _) | (with_reducible assumption) | (with_reducible refine ext_drew ?_) | (with_reducible refine ext_drewN ?_ _) | (with_reducible refine ext_alloc ?_ _) | (with_reducible refine ext_set ?_ (by first | omega | (simp <;> omega)) _) | (with_reducible refine ext_trans ?_ (by with_reducible assumption)))) hx1); clear hx1)))
  refine wp_name (fun w2 ew2 => ?_)
  have r0 : w2.cell? ⟨w.heap.size + 1, 0, none⟩ = some (.slice none 0 0) := by rw [ew2]; go_simp
  have r1 : w2.cell? ⟨w.heap.size + 1, 1, none⟩ = some (.slice none 0 0) := by rw [ew2]; go_simp
  have rf0 : w2.frozen? ⟨w.heap.size + 1, 0, none⟩ = false := by rw [ew2]; go_simp
  have rf1 : w2.frozen? ⟨w.heap.size + 1, 1, none⟩ = false := by rw [ew2]; go_simp
  have s0 : w2.cell? ⟨w.heap.size, 0, none⟩ = some (.slice a0 n0 c0) := by rw [ew2]; go_simp
  have s1 : w2.cell? ⟨w.heap.size, 1, none⟩ = some (.slice a1 n1 c1) := by rw [ew2]; go_simp
  have hs2 : w.heap.size + 2 ≤ w2.heap.size := by rw [ew2]; first | omega | (simp; omega)
  have HW2 := Lib.hid (show Ext w w2 by rw [ew2]; exact HXW.out)
  clear ew2 q0 q1 q2 q3 qf0 qf1 HXW HCH
  go_loopw [6, 7] (fun ev iv wr => ∃ (k : Nat) (er : Int), k ≤ l.length ∧ iv = .int .i64 k ∧ ev = .int .i64 er ∧ Hid (AllAt s l k er) ∧ Hid (Ext w2 wr)) (fun ev iv _ => l.length - (intOf iv).toNat)
  case atStart => exact ⟨0, es, Nat.zero_le _, rfl, rfl, HST, Lib.hid (ext_refl _)⟩
  case round =>
    obtain ⟨k, er, hk, rfl, rfl, HA, HX⟩ := hrel
    have hsr := HX.out.size
    have hb0 : w.heap.size < wr.heap.size := by omega
    have hb1 : w.heap.size + 1 < wr.heap.size := by omega
    have x0 := (HX.out.cells _ _ (show w.heap.size + 1 < w2.heap.size by omega)).trans r0
    have x1 := (HX.out.cells _ _ (show w.heap.size + 1 < w2.heap.size by omega)).trans r1
    have xf0 := (HX.out.frz _ _ (show w.heap.size + 1 < w2.heap.size by omega)).trans rf0
    have xf1 := (HX.out.frz _ _ (show w.heap.size + 1 < w2.heap.size by omega)).trans rf1
    have t0 := (HX.out.cells _ _ (show w.heap.size < w2.heap.size by omega)).trans s0
    have t1 := (HX.out.cells _ _ (show w.heap.size < w2.heap.size by omega)).trans s1
    have HXW := Lib.hid (ext_trans HW2.out HX.out)
    clear r0 r1 rf0 rf1 s0 s1
    have hgo : (k < l.length ∧ er = 0) ∨ (l.length ≤ k ∨ er ≠ 0) := by omega
    rcases hgo with ⟨hlt, rfl⟩ | hend
    · obtain ⟨b, o, d, b1, m1, e1, b2, m2, e2, sx, rfl, hb, ek, hde, y0, y1, y2, y3, y4, y5, y6⟩ := deed_at (HL.out wr HXW.out) hlt
      have HDE := Lib.hid (fun (W : World) (hx : Ext wr W) => checkDeedP_any (gDe.ext hde hx))
      have HN := Lib.hid (allAt_next HA.out ek)
      have g1 : decide ((k : Int) < (l.length : Int)) = true := decide_eq_true (by omega)
      have g2 : decide (k < l.length) = true := decide_eq_true (by omega)
      generalize checkD d = ed at *
      clear ek hde HA
      go_wp2_with (first | (go_at_call 14; go_must ((with_reducible refine (HDE.out _ (by repeat (first | (with_reducible exact ext_refl _) | (with_reducible assumption) | (with_reducible refine ext_drew ?_) | (with_reducible refine ext_drewN ?_ _) | (with_reducible refine ext_alloc ?_ _) | (with_reducible refine ext_set ?_ (by first | omega | (simp <;> omega)) _) | (with_reducible refine ext_trans ?_ (by with_reducible assumption))))).mono ?_); rintro e w5 ⟨rfl, hx5⟩; have HX5 := Lib.hid (show Ext wr w5 from ext_trans (by repeat (first | (with_reducible exact ext_refl _) | (with_reducible assumption) | (with_reducible refine ext_drew ?_) | (with_reducible refine ext_drewN ?_ _) | (with_reducible refine ext_alloc ?_ _) | (with_reducible refine ext_set ?_ (by first | omega | (simp <;> omega)) _) | (with_reducible refine ext_trans ?_ (by with_reducible assumption)))) hx5); clear hx5)))
      go_roundw
      case rel => exact ⟨k + 1, ed, by omega, by go_num, rfl, HN, Lib.hid (ext_trans HX.out HX5.out)⟩
      case measure => simp [intOf]; omega
    · have he := allAt_end HA.out hend
      have HE := Lib.hid he
      by_cases h0 : er = 0
      · subst h0
        have hkl : l.length ≤ k := by omega
        have g1 : decide ((k : Int) < (l.length : Int)) = false := decide_eq_false (by omega)
        have g2 : decide (k < l.length) = false := decide_eq_false (by omega)
        have HR := Lib.hid (fun (W : World) (hx : Ext wr W) => HRW.out W (ext_trans HXW.out hx) he)
        obtain ⟨_, _, hN, hS⟩ := allE_run he
        clear hend he
        cases hdo : doDs s l with
        | none =>
          rw [hdo] at HR
          have HNN := Lib.hid (hN hdo)
          clear hN hS hdo
          go_wp2_with (first | (go_at_call 38; go_must ((with_reducible refine (HR.out _ (by repeat (first | (with_reducible exact ext_refl _) | (with_reducible assumption) | (with_reducible refine ext_drew ?_) | (with_reducible refine ext_drewN ?_ _) | (with_reducible refine ext_alloc ?_ _) | (with_reducible refine ext_set ?_ (by first | omega | (simp <;> omega)) _) | (with_reducible refine ext_trans ?_ (by with_reducible assumption))))).mono ?_); rintro e w5 ⟨rfl, hx5⟩; have hs5 := hx5.size; (try simp at hs5); have hl5 : w.heap.size + 1 < w5.heap.size := (by omega); have hl5n : ¬ w.heap.size + 1 = w5.heap.size := (by omega); have hl5n' : ¬ w5.heap.size = w.heap.size + 1 := (by omega); have z0 := (hx5.cells (w.heap.size + 1) 0 (by first | omega | (simp <;> omega))).trans (show _ = some (.slice none 0 0) by first | assumption | go_simp); have z1 := (hx5.cells (w.heap.size + 1) 1 (by first | omega | (simp <;> omega))).trans (show _ = some (.slice none 0 0) by first | assumption | go_simp); have zf0 := (hx5.frz (w.heap.size + 1) 0 (by first | omega | (simp <;> omega))).trans (show _ = false by first | assumption | go_simp); have zf1 := (hx5.frz (w.heap.size + 1) 1 (by first | omega | (simp <;> omega))).trans (show _ = false by first | assumption | go_simp); have HX5 := Lib.hid (show Ext w w5 from ext_trans (ext_trans HXW.out (by repeat (first | (with_reducible exact ext_refl _) | (with_reducible assumption) | (with_reducible refine ext_drew ?_) | (with_reducible refine ext_drewN ?_ _) | (with_reducible refine ext_alloc ?_ _) | (with_reducible refine ext_set ?_ (by first | omega | (simp <;> omega)) _) | (with_reducible refine ext_trans ?_ (by with_reducible assumption))))) hx5);  clear hx5)))
          refine bodyPost_ret (v := .tuple #[.agg #[.slice none 0 0, .slice none 0 0], .int .i64 2]) (by simp [results, Try.results11, go_sem, z0, z1, hl5]) rfl (by rw [HNN.out.1, HNN.out.2]; exact ⟨_, _, rfl, ownSt_nil, (by repeat (first | (with_reducible exact HX5.out) | (with_reducible refine ext_alloc ?_ _) | (with_reducible refine ext_set ?_ (by first | (show w.heap.size ≤ w.heap.size + 1; omega) | (show w.heap.size ≤ w5.heap.size; omega)) _)))⟩)
        | some t =>
          rw [hdo] at HR
          have HNN := Lib.hid (hS t hdo)
          clear hN hS hdo
          go_wp2_with (first | (go_at_call 38; go_must ((with_reducible refine (HR.out _ (by repeat (first | (with_reducible exact ext_refl _) | (with_reducible assumption) | (with_reducible refine ext_drew ?_) | (with_reducible refine ext_drewN ?_ _) | (with_reducible refine ext_alloc ?_ _) | (with_reducible refine ext_set ?_ (by first | omega | (simp <;> omega)) _) | (with_reducible refine ext_trans ?_ (by with_reducible assumption))))).mono ?_); rintro e w5 ⟨v5, u5, rfl, ho5, hx5⟩; have hs5 := hx5.size; (try simp at hs5); have hl5 : w.heap.size + 1 < w5.heap.size := (by omega); have hl5n : ¬ w.heap.size + 1 = w5.heap.size := (by omega); have hl5n' : ¬ w5.heap.size = w.heap.size + 1 := (by omega); have z0 := (hx5.cells (w.heap.size + 1) 0 (by first | omega | (simp <;> omega))).trans (show _ = some (.slice none 0 0) by first | assumption | go_simp); have z1 := (hx5.cells (w.heap.size + 1) 1 (by first | omega | (simp <;> omega))).trans (show _ = some (.slice none 0 0) by first | assumption | go_simp); have zf0 := (hx5.frz (w.heap.size + 1) 0 (by first | omega | (simp <;> omega))).trans (show _ = false by first | assumption | go_simp); have zf1 := (hx5.frz (w.heap.size + 1) 1 (by first | omega | (simp <;> omega))).trans (show _ = false by first | assumption | go_simp); have HX5 := Lib.hid (show Ext w w5 from ext_trans (ext_trans HXW.out (by repeat (first | (with_reducible exact ext_refl _) | (with_reducible assumption) | (with_reducible refine ext_drew ?_) | (with_reducible refine ext_drewN ?_ _) | (with_reducible refine ext_alloc ?_ _) | (with_reducible refine ext_set ?_ (by first | omega | (simp <;> omega)) _) | (with_reducible refine ext_trans ?_ (by with_reducible assumption))))) hx5); obtain ⟨a5, n5, c5, rfl⟩ := osl_slice ho5.1; obtain ⟨a6, n6, c6, rfl⟩ := osl_slice ho5.2.1; have HO5 := Lib.hid ho5; have hwr5 : wr.heap.size ≤ w5.heap.size := (by omega); clear ho5; clear hx5)))
          refine bodyPost_ret (v := .tuple #[.agg #[.slice a5 n5 c5, .slice a6 n6 c6], .int .i64 0]) (by simp [results, Try.results11, go_sem, z0, z1, hl5]) rfl (by rw [HNN.out.1, HNN.out.2]; exact ⟨_, _, rfl, ownSt_keep HO5.out (by omega) (by repeat (first | (with_reducible exact keeps_refl) | (with_reducible refine keeps_alloc ?_ _) | (with_reducible refine keeps_set ?_ (fun hq h => by first | (have h' : wr.heap.size ≤ w.heap.size + 1 := h; omega) | (have h' : w5.heap.size < w5.heap.size := hq; omega)) _))), (by repeat (first | (with_reducible exact HX5.out) | (with_reducible refine ext_alloc ?_ _) | (with_reducible refine ext_set ?_ (by first | (show w.heap.size ≤ w.heap.size + 1; omega) | (show w.heap.size ≤ w5.heap.size; omega)) _)))⟩)
      · have g3 : (er == 0) = false := by simpa using h0
        have g4 : (er != 0) = true := by simpa using h0
        obtain ⟨f1, f2⟩ := allE_err (s := s) (l := l) (by rw [he]; exact h0)
        have HNN := Lib.hid (And.intro (f1.trans he) f2)
        by_cases hlt : k < l.length
        · have g1 : decide ((k : Int) < (l.length : Int)) = true := decide_eq_true (by omega)
          have g2 : decide (k < l.length) = true := decide_eq_true (by omega)
          clear he f1 f2 hend
          go_wp2_with fail
          refine bodyPost_ret (v := .tuple #[.agg #[.slice none 0 0, .slice none 0 0], .int .i64 er]) (by simp [results, Try.results11, go_sem, x0, x1]) rfl (by rw [HNN.out.1, HNN.out.2]; exact ⟨_, _, rfl, ownSt_nil, (by repeat (first | (with_reducible exact HXW.out) | (with_reducible refine ext_alloc ?_ _) | (with_reducible refine ext_set ?_ (by first | (show w.heap.size ≤ w.heap.size + 1; omega) | (show w.heap.size ≤ w5.heap.size; omega)) _)))⟩)
        · have g1 : decide ((k : Int) < (l.length : Int)) = false := decide_eq_false (by omega)
          have g2 : decide (k < l.length) = false := decide_eq_false (by omega)
          clear he f1 f2 hend
          go_wp2_with fail
          refine bodyPost_ret (v := .tuple #[.agg #[.slice none 0 0, .slice none 0 0], .int .i64 er]) (by simp [results, Try.results11, go_sem, x0, x1]) rfl (by rw [HNN.out.1, HNN.out.2]; exact ⟨_, _, rfl, ownSt_nil, (by repeat (first | (with_reducible exact HXW.out) | (with_reducible refine ext_alloc ?_ _) | (with_reducible refine ext_set ?_ (by first | (show w.heap.size ≤ w.heap.size + 1; omega) | (show w.heap.size ≤ w5.heap.size; omega)) _)))⟩)
end Go.Proofs.Ytfgfdohppgoajaa
/- A deed, with errors. -/
namespace Go.Proofs.Ytfgfdohppgoajaa
open Go Go.RowKit Go.BigFrame Cp

theorem rangeAt7 {w : World} {b o : Nat} {x0 x1 x2 x3 x4 x5 x6 : Value} (h0 : w.cell? ⟨b, o, none⟩ = some x0) (h1 : w.cell? ⟨b, o + 1, none⟩ = some x1) (h2 : w.cell? ⟨b, o + 2, none⟩ = some x2) (h3 : w.cell? ⟨b, o + 3, none⟩ = some x3)
    (h4 : w.cell? ⟨b, o + 4, none⟩ = some x4) (h5 : w.cell? ⟨b, o + 5, none⟩ = some x5) (h6 : w.cell? ⟨b, o + 6, none⟩ = some x6) : w.rangeAt b o [x0, x1, x2, x3, x4, x5, x6] := by
  intro j v hv
  match j, hv with
  | 0, hv => exact (by simpa using hv : x0 = v) ▸ h0
  | 1, hv => exact (by simpa using hv : x1 = v) ▸ h1
  | 2, hv => exact (by simpa using hv : x2 = v) ▸ h2
  | 3, hv => exact (by simpa using hv : x3 = v) ▸ h3
  | 4, hv => exact (by simpa using hv : x4 = v) ▸ h4
  | 5, hv => exact (by simpa using hv : x5 = v) ▸ h5
  | 6, hv => exact (by simpa using hv : x6 = v) ▸ h6
theorem de_one {F : Nat → Prop} {W : World} {r : Nat} {c0 c1 c2 c3 c4 c5 c6 : Value} {d : De} (h : RDe F W [c0, c1, c2, c3, c4, c5, c6] d) (h0 : W.cell? ⟨r, 0, none⟩ = some c0) (h1 : W.cell? ⟨r, 1, none⟩ = some c1) (h2 : W.cell? ⟨r, 2, none⟩ = some c2) (h3 : W.cell? ⟨r, 3, none⟩ = some c3)
    (h4 : W.cell? ⟨r, 4, none⟩ = some c4) (h5 : W.cell? ⟨r, 5, none⟩ = some c5) (h6 : W.cell? ⟨r, 6, none⟩ = some c6) :
    RSl RDe 7 (fun j => F j ∨ j = r) W (.slice (some ⟨r, 0, none⟩) 1 1) [d] :=
  rsl_of_range (o := 0) (xs := [c0, c1, c2, c3, c4, c5, c6]) (rangeAt7 h0 h1 h2 h3 h4 h5 h6) (chunks_one rfl (gDe.more (fun _ h _ => Or.inl h) h)) (Or.inr rfl) (World.block_lt_of_cell? _ _ h0) (Nat.le_refl _) (by unfold maxLen; omega)
set_option maxRecDepth 100000 in
set_option maxHeartbeats 4000000 in
theorem do_any {F G : Nat → Prop} {w : World} {cs ds : List Value} {s : St} {d : De} (h : RSt F w cs s) (hd : RDe G w ds d) :
    Calls Try.prog 10 #[.agg cs.toArray, .agg ds.toArray] w (IsStE (allV s [d]) (allE s [d]) w) := by
  have HAL := Lib.hid (fun (W : World) (hx : Ext w W) (x : Value) (F' : Nat → Prop) (hl : RSl RDe 7 F' W x [d]) => all_any (gSt.ext h hx) hl)
  have HDE := Lib.hid (fun (W : World) (hx : Ext w W) => gDe.ext hd hx)
  obtain ⟨v, u, rfl, h1, h2⟩ := h
  obtain ⟨v0, x0, u0, rfl, _, k1, _, k3, k4, _, _⟩ := hd
  obtain ⟨a0, n0, c0, rfl⟩ := h1.slice
  obtain ⟨a1, n1, c1, rfl⟩ := h2.slice
  obtain ⟨a2, n2, c2, rfl⟩ := k1.slice
  obtain ⟨a3, n3, c3, rfl⟩ := k4.slice
  obtain ⟨sx, rfl, _⟩ := tx_bytes k3
  generalize allV s [d] = tv at *
  generalize allE s [d] = er at *
  clear h1 h2 k1 k3 k4
  go_enter Try.func10, Try.ntmps10
  go_wp2_with (first | (go_at_call 11; go_must ((with_reducible refine (HAL.out _ (by repeat (first | (with_reducible exact ext_refl _) | (with_reducible assumption) | (with_reducible refine ext_drew ?_) | (with_reducible refine ext_drewN ?_ _) | (with_reducible refine ext_alloc ?_ _) | (with_reducible refine ext_set ?_ (by first | omega | (simp <;> omega)) _) | (with_reducible refine ext_trans ?_ (by with_reducible assumption)))) _ _ (de_one (HDE.out _ (by repeat (first | (with_reducible exact ext_refl _) | (with_reducible assumption) | (with_reducible refine ext_drew ?_) | (with_reducible refine ext_drewN ?_ _) | (with_reducible refine ext_alloc ?_ _) | (with_reducible refine ext_set ?_ (by first | omega | (simp <;> omega)) _) | (with_reducible refine ext_trans ?_ (by with_reducible assumption))))) (by first | assumption | go_simp) (by first | assumption | go_simp) (by first | assumption | go_simp) (by first | assumption | go_simp) (by first | assumption | go_simp) (by first | assumption | go_simp) (by first | assumption | go_simp))).mono ?_); rintro e w5 ⟨v5, u5, rfl, ho5, hx5⟩; obtain ⟨a5, n5, c5, rfl⟩ := osl_slice ho5.1; obtain ⟨a6, n6, c6, rfl⟩ := osl_slice ho5.2.1; have hs5 := hx5.size; (try simp at hs5); have hl5 : w.heap.size + 2 < w5.heap.size := (by omega); have z0 := (hx5.cells (w.heap.size + 2) 0 (by first | omega | (simp <;> omega))).trans (show _ = some (.slice none 0 0) by first | assumption | go_simp); have z1 := (hx5.cells (w.heap.size + 2) 1 (by first | omega | (simp <;> omega))).trans (show _ = some (.slice none 0 0) by first | assumption | go_simp); have zf0 := (hx5.frz (w.heap.size + 2) 0 (by first | omega | (simp <;> omega))).trans (show _ = false by first | assumption | go_simp); have zf1 := (hx5.frz (w.heap.size + 2) 1 (by first | omega | (simp <;> omega))).trans (show _ = false by first | assumption | go_simp); have HX5 := Lib.hid (show Ext w w5 from ext_trans (by repeat (first | (with_reducible exact ext_refl _) | (with_reducible assumption) | (with_reducible refine ext_drew ?_) | (with_reducible refine ext_drewN ?_ _) | (with_reducible refine ext_alloc ?_ _) | (with_reducible refine ext_set ?_ (by first | omega | (simp <;> omega)) _) | (with_reducible refine ext_trans ?_ (by with_reducible assumption)))) hx5); have HO5 : Hid (OwnSt (w.heap.size + 4) tv w5 (.slice a5 n5 c5) (.slice a6 n6 c6)) := Lib.hid (ownSt_keep ho5 (by first | omega | (simp <;> omega)) keeps_refl); clear hx5 ho5)))
  refine bodyPost_ret (v := .tuple #[.agg #[.slice a5 n5 c5, .slice a6 n6 c6], .int .i64 er]) (by simp [results, Try.results10, go_sem, z0, z1, hl5]) rfl ⟨_, _, rfl, ?_, ?_⟩
  · exact ownSt_keep HO5.out (by omega) (by repeat (first | (with_reducible exact keeps_refl) | (with_reducible refine keeps_alloc ?_ _) | (with_reducible refine keeps_set ?_ (fun hq h => by first | (have h' : w.heap.size + 4 ≤ w.heap.size + 1 + 1 := h; omega) | (have h' : w.heap.size + 4 ≤ w.heap.size + 2 := h; omega) | (have h' : w5.heap.size < w5.heap.size := hq; omega)) _)))
  · exact (by repeat (first | (with_reducible exact HX5.out) | (with_reducible refine ext_alloc ?_ _) | (with_reducible refine ext_set ?_ (by first | (show w.heap.size ≤ w.heap.size + 2; omega) | (show w.heap.size ≤ w5.heap.size; omega)) _)))
end Go.Proofs.Ytfgfdohppgoajaa
