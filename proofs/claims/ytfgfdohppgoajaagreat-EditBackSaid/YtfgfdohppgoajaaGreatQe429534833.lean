/- Who does deeds: a run is put. -/
import Derived.RangeFuncNested
import Derived.RangeFuncBound
import Derived.RangeFuncCalls
import Derived.RangeFuncLeaves
import Derived.Shelf.Abstract
import Derived.Shelf.RegionOpen
import Derived.WalkKit
import Derived.OwnWalkIn
import Derived.TacticsInMore
import Derived.LoopNIn
import Derived.LoopIn
import Derived.Test.YtfgfdohppgoajaaGreatQ1c942df31e
import Derived.Test.YtfgfdohppgoajaaGreatQ6c285e8d1e
import Derived.Test.YtfgfdohppgoajaaGreatQa1b06f5163
import Derived.Deep.RegionLaw
set_option linter.unusedVariables false
set_option linter.unusedSimpArgs false
namespace Go.Proofs.YtfgfdohppgoajaaGreat
open Go Go.RowKit Go.BigFrame Cp

attribute [local go_sem] Oper.semAt_some
theorem wpIn_name' {F : Fence} {n : Nat} {P : Program} {c : Code} {Q : Exit → Act → World → Prop} {a : Act} {w : World} (h : ∀ W, W = w → c.wpIn F n P Q a W) : c.wpIn F n P Q a w := h w rfl
/-- the normal way alone -/
def onlyN (K : Act → World → Prop) : Exit → Act → World → Prop
  | .normal, a, w => K a w
  | _, _, _ => False
theorem wpIn_only {F : Fence} {n : Nat} {P : Program} {c : Code} {Q : Exit → Act → World → Prop} {a : Act} {w : World} (h : c.wpIn F n P (onlyN (fun a w => Q .normal a w)) a w) : c.wpIn F n P Q a w :=
  wpIn_mono h fun e a w hq => by cases e <;> first | exact hq | exact hq.elim
theorem others_ext {W W' : World} (h : Ext W W') : KeepsOthers W W' := ⟨Below.size h, fun k o hk _ => (Below.block h k (Array.getElem?_eq_some_iff.1 hk).1).trans hk⟩
theorem filter_one {α : Type} (p : α → Bool) (x : α) : [x].filter p = if p x = true then [x] else [] := by cases h : p x <;> simp [h]
/-- the atoms are others now, that are new -/
theorem doer_new0 {Z : Nat → Prop} {B b : Nat} {s : St} {w V w4 W' : World} {v u v4 : Value} {l : List At} (h : DoerIs Z B b s w v u) (hV : Ext w V) (hv4 : OSl RAt 3 83 V.heap.size (fun j => V.heap.size ≤ j) w4 v4 l) (hx : Ext V w4) (hZ : ∀ j, Z j → j < w.heap.size)
    (hk : Keeps (fun j => (j < w.heap.size ∧ j ≠ b) ∨ V.heap.size ≤ j) w4 W') (c0 : W'.cell? ⟨b, 0, none⟩ = some v4) (c1 : W'.cell? ⟨b, 1, none⟩ = some u) (fz : ∀ o, W'.frozen? ⟨b, o, none⟩ = false) :
    DoerIs Z B b (l, s.2) W' v4 u := by
  have hb := doer_lt h
  have hru := osl_lt h.og
  have hrv := osl_lt hv4
  have hVs := hV.size
  have h4 : OSl RAt 3 83 B (fun j => B ≤ j ∧ j ≠ b ∧ some j ≠ u.ownBlock) W' v4 l := by
    refine osl_more gAt (osl_base (base := V.heap.size) (by have := h.le; omega) (osl_keep gAt hv4 (hk.weaken (fun j _ hj => ?_)))) (fun k hk _ _ => ⟨by have := h.le; omega, by omega, fun e => by have := (hru k e.symm).2; omega⟩)
    rcases hj with hj | hj
    · exact .inr hj
    · exact .inr (hrv j hj.symm).1
  have h5 : OSl RMk 2 47 B (fun j => B ≤ j ∧ j ≠ b ∧ some j ≠ v4.ownBlock) W' u s.2 := by
    have h5' : OSl RMk 2 47 B (fun j => (B ≤ j ∧ j ≠ b ∧ some j ≠ v.ownBlock) ∧ j < w.heap.size) w u s.2 := osl_more gMk h.og (fun k hk hl _ => ⟨hk, hl⟩)
    refine osl_more gMk (osl_keep gMk (osl_ext gMk h5' (ext_trans hV hx)) (hk.weaken (fun j _ hj => ?_))) (fun k hk _ _ => ⟨hk.1.1, hk.1.2.1, fun e => by have := (hrv k e.symm).1; omega⟩)
    rcases hj with hj | hj
    · exact .inl ⟨hj.2, hj.1.2.1⟩
    · exact .inl ⟨(hru j hj.symm).2, (h.rg j hj.symm).1⟩
  refine ⟨c0, c1, fz, h4, h5, fun j hj => ⟨fun e => ?_, ?_, fun hz => ?_⟩, h.rg, h.le, h.nz⟩
  · have h1 := (hrv j hj).1
    have h2 := (hru j e).2
    omega
  · have := (hrv j hj).1; omega
  · have h1 := (hrv j hj).1
    have h2 := hZ j hz
    omega
theorem kept_putObj {Z : Nat → Prop} {a w : World} (h : Kept Z a w) {k : Nat} (hk : ¬ Z k) (o : Obj) : Kept Z a (w.putObj k o) :=
  ⟨h.os, h.tape, h.output, by simp only [World.putObj, Array.size_setIfInBounds]; exact h.size, fun j hj hl => (World.putObj_heap_other (fun e => hk (by first | (rw [← e]; exact hj) | (rw [e]; exact hj)))).trans (h.block j hj hl)⟩
theorem cell_putObj {w : World} {k b : Nat} (h : b ≠ k) (o : Nat) (x : Obj) : (w.putObj k x).cell? ⟨b, o, none⟩ = w.cell? ⟨b, o, none⟩ := World.cell?_of_block (a := ⟨b, o, none⟩) (World.putObj_heap_other (by omega))
theorem frz_putObj {w : World} {k b : Nat} (h : b ≠ k) (o : Nat) (x : Obj) : (w.putObj k x).frozen? ⟨b, o, none⟩ = w.frozen? ⟨b, o, none⟩ := World.frozen?_of_block (a := ⟨b, o, none⟩) (World.putObj_heap_other (by omega))
theorem filter_right {l : List At} {p : At → Bool} (h : RightA l) : RightA (l.filter p) := by
  obtain ⟨hs, ha⟩ := h
  refine ⟨?_, fun a hm => ha a (List.mem_filter.1 hm).1⟩
  clear ha
  induction l with
  | nil => trivial
  | cons x r ih =>
    rw [List.filter_cons]
    split
    · exact sortedA_mk (ih (sortedA_tail hs)) (fun b hb => sortedA_head hs b (List.mem_filter.1 hb).1)
    · exact ih (sortedA_tail hs)
set_option maxRecDepth 100000 in
set_option maxHeartbeats 4000000 in
theorem dput_any {Z F : Nat → Prop} {w : World} {B b : Nat} {s : St} {v u : Value} {cs : List Value} {r : Rn} (h : DoerIs Z B b s w v u) (hrn : RRn F w cs r) (hcr : checkR r = 0) (hZ : ∀ j, Z j → j < w.heap.size)
    (hs : RightA s.1) (hg : SortedG s.2) (hl3 : s.1.length ≤ 300) (hn : s.2.length ≤ 1000) :
    Calls Tryz.prog 128 #[.pointer (some ⟨b, 0, none⟩), .agg cs.toArray] w (fun e w' => e = .returned (.tuple #[]) ∧ DoerAt Z B b (putNs s.2 s.1 (atomsR r), s.2) w' ∧ Kept Z w w') := by
  have hbw := doer_lt h
  have HD := Lib.hid (fun (W : World) (hx : Ext w W) => doer_ext h hx)
  obtain ⟨v0, u0, rfl, hl, hi, hu⟩ := hrn
  obtain ⟨⟨l, c⟩, t⟩ := r
  simp only at hl hi hu hcr ⊢
  have hra := right_of (atoms_right hcr)
  have HRA := Lib.hid hra
  obtain ⟨sx, rfl, rfl, hsx⟩ := tx_bytes hu
  obtain ⟨a1, n1, c1, rfl⟩ := hl.slice
  have HL := Lib.hid hl
  obtain ⟨la, lg⟩ := s
  simp only at hs hg hl3 hn ⊢
  have HMG := Lib.hid (fun (W : World) (hx : Ext w W) (G : Nat → Prop) (ds : List Value) (m : Mk) (hm : RMk G W ds m) => (gone_any (doer_ext h hx).c1 (doer_gone (doer_ext h hx)) hm hg (by omega) : Calls Tryz.prog 142 #[.pointer (some ⟨b, 0, none⟩), .agg ds.toArray] W (fun e w' => e = .returned (.tuple #[.int .i64 (placeG lg m : Nat), .bool (hasG lg m)]) ∧ Ext W w')))
  have HSR := Lib.hid hs
  obtain ⟨av, nv, cv, rfl⟩ := osl_slice h.oa
  obtain ⟨au, nu, cu, rfl⟩ := osl_slice h.og
  have HZ := Lib.hid hZ
  clear hl hu h hs hg hZ hra
  have hs60 : sx.size ≤ 60 := by simpa using (checkR_parts hcr).2.2.1
  refine (callsIn_wide (n := 6)).1 ?_
  refine callsIn_of_wp_marks Tryz.func128 rfl trivial ?_ rfl
  simp only [Tryz.ntmps128, List.size_toArray, List.length_cons, List.length_nil, Nat.reduceAdd, Nat.reduceSub, Array.replicate_succ, Array.replicate_zero, List.push_toArray, List.append_toArray, List.nil_append, List.cons_append]
  gi_wp2_with (refine ⟨trivial, ?_⟩; gi_at_call 75; refine (callsIn_wide.2 (each_any _ _ _ _ _)).mono ?_; rintro e w2 ⟨rfl, rfl⟩)
  refine wpIn_name' (fun W0 eW0 => ?_)
  have k0 : W0.cell? ⟨w.heap.size + 2, 0, none⟩ = some (.slice none 0 0) := by rw [eW0]; go_simp
  have k1 : W0.frozen? ⟨w.heap.size + 2, 0, none⟩ = false := by rw [eW0]; go_simp
  have k2 : W0.cell? ⟨w.heap.size + 3, 0, none⟩ = some (.slice a1 n1 c1) := by rw [eW0]; go_simp
  have k3 : W0.cell? ⟨w.heap.size + 3, 1, none⟩ = some (.int .i64 c) := by rw [eW0]; go_simp
  have k4 : W0.cell? ⟨w.heap.size + 3, 2, none⟩ = some (.string sx) := by rw [eW0]; go_simp
  have k5 : W0.cell? ⟨w.heap.size, 0, none⟩ = some (.pointer (some ⟨b, 0, none⟩)) := by rw [eW0]; go_simp
  have hs0 : w.heap.size + 4 ≤ W0.heap.size := by rw [eW0]; simp
  have hs0' : W0.heap.size ≤ w.heap.size + 4 := by rw [eW0]; simp
  have hx0 : Ext w W0 := by rw [eW0]; exact extA
  clear eW0
  obtain ⟨i0, hi0, hz0, hz1', hz2⟩ := info_parts info_atom
  obtain ⟨f, hf⟩ : ∃ f : Nat → At, f = fun (i : Nat) => (afterM (l, c) (i : Int), sx.data.toList.getD i 0) := ⟨_, rfl⟩
  have hat : atomsR ((l, c), sx.data.toList) = (List.range sx.size).map f := by
    unfold atomsR; rw [hf]
    have : sx.data.toList.length = sx.size := by simp
    simp only [this]
  have HFF := Lib.hid hf
  have HAT := Lib.hid hat
  clear hf hat
  obtain ⟨pk, hpk⟩ : ∃ pk : At → Bool, pk = fun a => !hasG lg a.1 := ⟨_, rfl⟩
  have HPK := Lib.hid hpk
  clear hpk
  refine wpIn_rangeFunc_X (F := Fence.wide) (n := 6) rfl (by omega) (gf := 121) (lb := #[.pointer (some ⟨w.heap.size + 3, 0, none⟩)]) rfl trivial (enters_of Tryz.func121 (by kernel_rfl) rfl)
    (Fk := fun k => k ≠ w.heap.size + 2 ∧ k < W0.heap.size) (each1_any (n := 5) (by omega) (Bn := w.heap.size + 3) ⟨by omega, by omega⟩ (by omega) ((RSl.more gStp (G := fun k => k < w.heap.size) (fun _ _ hk => hk) HL.out).ext gStp hx0) (fun j hj => ⟨by omega, by omega⟩) hi hcr k2 k3 k4)
    (fun h => by omega) (ext_refl _) (fun _ => rfl)
    (fun (pre : List Yd) (W : World) => ∃ v, W.cell? ⟨w.heap.size + 2, 0, none⟩ = some v ∧ W.frozen? ⟨w.heap.size + 2, 0, none⟩ = false ∧ W.cell? ⟨w.heap.size, 0, none⟩ = some (.pointer (some ⟨b, 0, none⟩)) ∧ OSl RAt 3 83 (W0.heap.size + 2) (fun j => W0.heap.size + 2 ≤ j) W v ((pre.map Yd.at_).filter pk) ∧ pre.map Yd.at_ = (List.range pre.length).map f ∧ Ext w W)
    ?ie ?ip ⟨_, k0, k1, k5, osl_nil, rfl, hx0⟩
    (fun (pre : List Yd) (x : Yd) (a' : Act) (W : World) => ∃ Bx v m, W0.heap.size + 2 ≤ Bx ∧ W.cell? ⟨w.heap.size + 2, 0, none⟩ = some v ∧ (∀ k, v.ownBlock = some k → k < m) ∧ W0.heap.size + 2 ≤ m ∧ RSl RStp 2 (fun j => m ≤ j) W (.slice x.a x.n x.c) x.at_.1.1 ∧ x.at_ = f pre.length ∧ I64 x.at_.1.2 ∧
      W.cell? ⟨Bx, 0, none⟩ = some (.slice x.a x.n x.c) ∧ W.cell? ⟨Bx, 1, none⟩ = some (.int .i64 x.at_.1.2) ∧ W.cell? ⟨Bx, 2, none⟩ = some (.int .u8 (x.at_.2.toNat : Int)) ∧
      a' = { tmps := #[.pointer (some ⟨b, 0, none⟩), .agg #[.slice a1 n1 c1, .int .i64 c, .string sx], .pointer (some ⟨w.heap.size, 0, none⟩), .pointer (some ⟨w.heap.size + 1, 0, none⟩), .pointer (some ⟨w.heap.size + 2, 0, none⟩), .pointer (some ⟨Bx, 0, none⟩), undef, undef, .agg #[.slice a1 n1 c1, .int .i64 c, .string sx], .func (.func 121) #[] #[.pointer (some ⟨w.heap.size + 3, 0, none⟩)], .agg #[.slice x.a x.n x.c, .int .i64 x.at_.1.2, .int .u8 (x.at_.2.toNat : Int)], undef, undef, undef, undef, undef, undef, undef, undef, undef, undef, undef, undef, undef, undef, undef, undef, undef, undef, undef, undef, undef, undef, undef, undef], defers := [] })
    ?ap ?assign ?body ?done
  case ie =>
    rintro pre A Bq ⟨v, h1, h2, h2', h3, h4, h5⟩ he
    have hlt := World.block_lt_of_cell? _ _ h1
    have hlt' := World.block_lt_of_cell? _ _ h2'
    exact ⟨v, (he.cells _ _ hlt).trans h1, (he.frz _ _ hlt).trans h2, (he.cells _ _ hlt').trans h2', osl_ext gAt h3 he, h4, ext_trans h5 he⟩
  case ip =>
    rintro pre W o' ⟨v, h1, h2, h2', h3, h4, h5⟩ hlt
    have hb : (W.putObj (W0.heap.size + 1) o').heap[w.heap.size + 2]? = W.heap[w.heap.size + 2]? := World.putObj_heap_other (by omega)
    have hb' : (W.putObj (W0.heap.size + 1) o').heap[w.heap.size]? = W.heap[w.heap.size]? := World.putObj_heap_other (by omega)
    exact ⟨v, (World.cell?_of_block (a := ⟨w.heap.size + 2, 0, none⟩) hb).trans h1, (World.frozen?_of_block (a := ⟨w.heap.size + 2, 0, none⟩) hb).trans h2, (World.cell?_of_block (a := ⟨w.heap.size, 0, none⟩) hb').trans h2',
      osl_keep gAt h3 (keeps_putObj (fun h => by rcases h with h | h; (· omega); (· have := (osl_lt h3 _ h.symm).1; omega)) o'), h4, ext_putObj h5 (by omega) o'⟩
  case ap =>
    rintro pre x a' W o' ⟨Bx, v, m, h1, h2, h3, h4, h5, h6, h7, h8, h9, h10, h11⟩ hlt
    have hb : ∀ k, k ≠ W0.heap.size + 1 → (W.putObj (W0.heap.size + 1) o').heap[k]? = W.heap[k]? := fun k hk => World.putObj_heap_other (by omega)
    exact ⟨Bx, v, m, h1, (World.cell?_of_block (a := ⟨w.heap.size + 2, 0, none⟩) (hb (w.heap.size + 2) (by omega))).trans h2, h3, h4, h5.keep gStp (keeps_putObj (fun h => by omega) o'), h6, h7,
      (World.cell?_of_block (a := ⟨Bx, 0, none⟩) (hb Bx (by omega))).trans h8, (World.cell?_of_block (a := ⟨Bx, 1, none⟩) (hb Bx (by omega))).trans h9, (World.cell?_of_block (a := ⟨Bx, 2, none⟩) (hb Bx (by omega))).trans h10, h11⟩
  case assign =>
    rintro pre x Wp W K ⟨v, h1, h2, h2', h3, h4, h5⟩ he hsz ⟨r1, r2, r3⟩ hK
    have hlt := World.block_lt_of_cell? _ _ h1
    have hc := (he.cells _ _ hlt).trans h1
    have hzW := he.size
    have R1 := Lib.hid (r1.trans (congrFun HFF.out.symm _))
    clear r1
    have hoW : w.heap.size + 2 < W.heap.size := Nat.lt_of_lt_of_le hlt hzW
    dsimp only [encY]
    gi_wp2
    refine hK _ _ ?e1 ?e2
    case e1 => exact ext_alloc (ext_refl _) _
    case e2 => exact ⟨W.heap.size, v, Wp.heap.size, by omega, by go_simp, fun k hk => (osl_lt h3 k hk).2, hsz, r2.ext gStp (ext_alloc (ext_refl _) _), R1.out, r3, by go_simp, by go_simp, by go_simp, rfl⟩
  case body =>
    rintro pre x a' W ⟨v, h1, h2, h2', h3, h4, h5⟩ ⟨Bx, v', m, q1, q2, q3, q4, q5, q6, q7, q8, q9, q10, rfl⟩ hlen hsz
    obtain rfl : v' = v := by rw [h1] at q2; exact (Option.some.inj q2).symm
    obtain ⟨ao, no, co, rfl⟩ := osl_slice h3
    have hpl : ((pre.map Yd.at_).filter pk).length ≤ pre.length := by have := List.length_filter_le pk (pre.map Yd.at_); simpa using this
    obtain ⟨q, hq⟩ : ∃ q, q = (pre.map Yd.at_).filter pk := ⟨_, rfl⟩
    rw [← hq] at h3 hpl
    have HQ := Lib.hid hq
    have H4 := Lib.hid h4
    obtain rfl : no = q.length := (osl_len h3).1
    clear hq h4
    have Q6 := Lib.hid q6
    clear q6
    have hown := osl_lt h3
    have hcl := osl_isCells h3
    have hoW : w.heap.size + 2 < W.heap.size := by omega
    have hBW : Bx < W.heap.size := World.block_lt_of_cell? _ _ q8
    have HGX := Lib.hid (fun (V : World) (hx : Ext W V) => HMG.out V (ext_trans h5 hx) (fun j => m ≤ j) [.slice x.a x.n x.c, .int .i64 x.at_.1.2] x.at_.1 (rmk_of' (q5.ext gStp hx) q7))
    have HPX : Hid (pk x.at_ = !hasG lg x.at_.1) := Lib.hid (by rw [HPK.out])
    cases hh : hasG lg x.at_.1 with
    | true =>
      rw [hh] at HGX
      generalize placeG lg x.at_.1 = pg at *
      gi_wp2_with ((refine ⟨trivial, ?_⟩; gi_at_call 142; refine (callsIn_wide.2 (HGX.out _ (ext_refl _))).mono ?_; rintro e w3 ⟨rfl, hx3⟩; have hz3 := hx3.size; have hz3a : w.heap.size + 2 < w3.heap.size := (by omega); have hz3b : w.heap.size < w3.heap.size := (by omega); have hz3c : Bx < w3.heap.size := (by omega); have p0 := (hx3.cells _ _ hoW).trans h1; have pf0 := (hx3.frz _ _ hoW).trans h2; have p1 := (hx3.cells _ _ hBW).trans q8; have p2 := (hx3.cells _ _ hBW).trans q9; have p3 := (hx3.cells _ _ hBW).trans q10; have p4 := (hx3.cells _ _ (by omega)).trans h2'))
      go_simp
      refine ⟨(others_ext hx3).from _, keeps_ext keeps_refl hx3, .slice ao q.length co, p0, pf0, p4, ?_, ?_, ext_trans h5 hx3⟩
      · rw [List.map_append, List.filter_append, List.map_singleton, filter_one, HPX.out, hh, ← HQ.out]
        simpa using osl_ext gAt h3 hx3
      · rw [List.map_append, H4.out, List.length_append]
        show _ ++ [x.at_] = _
        rw [Q6.out]
        exact (range_map f pre.length).symm
    | false =>
      rw [hh] at HGX
      generalize placeG lg x.at_.1 = pg at *
      gi_wp2_with (first
        | (refine ⟨trivial, ?_⟩; gi_at_call 142; refine (callsIn_wide.2 (HGX.out _ (ext_refl _))).mono ?_; rintro e w3 ⟨rfl, hx3⟩; have hz3 := hx3.size; have hz3a : w.heap.size + 2 < w3.heap.size := (by omega); have hz3b : w.heap.size < w3.heap.size := (by omega); have hz3c : Bx < w3.heap.size := (by omega); have p0 := (hx3.cells _ _ hoW).trans h1; have pf0 := (hx3.frz _ _ hoW).trans h2; have p1 := (hx3.cells _ _ hBW).trans q8; have p2 := (hx3.cells _ _ hBW).trans q9; have p3 := (hx3.cells _ _ hBW).trans q10; have p4 := (hx3.cells _ _ (by omega)).trans h2')
        | (gi_at_builtin; refine wpListIn_app1 gAt rfl (.tmp 20) (.tmp 22) 22 rfl (W0.heap.size + 2) 83 i0 _ 3 40 Tryz.underlying22 hi0 hz0 hz1' hz2 rfl (by omega) (G := fun j => W0.heap.size + 2 ≤ j) (H := fun j => m ≤ j) (.slice ao q.length co) q rfl (osl_ext gAt h3 (ext_trans hx3 (ext_alloc (ext_refl _) _))) w3.heap.size 0 1 [.slice x.a x.n x.c, .int .i64 x.at_.1.2, .int .u8 (x.at_.2.toNat : Int)] x.at_ rfl rfl (rangeAt3 (by go_simp) (by go_simp) (by go_simp)) (one_at _ _ _ x.at_ ⟨_, rfl, q5, q7⟩) ⟨_, rfl, q5.ext gStp (ext_trans hx3 (ext_alloc (ext_refl _) _)), q7⟩ (fun j hj _ => ⟨(show W0.heap.size + 2 ≤ j by omega), fun e => by have := q3 j e.symm; omega⟩) (by unfold maxLen; omega) (by omega) (by simp; omega) ?_; intro v9 w9 hown9 hg9 hat9; have o9 := (World.cell?_of_block (a := ⟨w.heap.size + 2, 0, none⟩) (hg9.block (w.heap.size + 2) (by simp; omega) (fun e => by have := (hown _ e.symm).1; omega))).trans (show _ = some (.slice ao q.length co) by go_simp); have of9 := (World.frozen?_of_block (a := ⟨w.heap.size + 2, 0, none⟩) (hg9.block (w.heap.size + 2) (by simp; omega) (fun e => by have := (hown _ e.symm).1; omega))).trans (show _ = false by go_simp); have ox9 := (World.cell?_of_block (a := ⟨w.heap.size, 0, none⟩) (hg9.block w.heap.size (by simp; omega) (fun e => by have := (hown _ e.symm).1; omega))).trans (show _ = some (.pointer (some ⟨b, 0, none⟩)) by go_simp); obtain ⟨a9, n9, c9, rfl⟩ := osl_slice hown9))
      refine ⟨((((others_ext hx3).trans (KeepsOthers.alloc w3 _)).trans (KeepsOthers.of_grownBy hg9 fun j o ej hj => ?_)).trans (KeepsOthers.setCell _ _ _)).from _, ?_, .slice a9 n9 c9, by go_simp, by go_simp, by go_simp, ?_, ?_, ?_⟩
      · exact hcl j o ej (by have hj' : j < W.heap.size := (hown j ej).2; rw [← hj]; exact ((Below.heap_alloc w3 _ j (by omega)).trans (Below.block hx3 j hj')).symm)
      · exact keeps_set ((keeps_alloc (keeps_ext keeps_refl hx3) _).trans ⟨hg9.size, fun j hj hlt => hg9.block j hlt (fun e => by have := (hown _ e.symm).1; omega)⟩) (fun _ h => h.1 rfl) _
      · have h9 := osl_keep gAt hown9 (w' := w9.setCell ⟨w.heap.size + 2, 0, none⟩ (.slice a9 n9 c9)) (keeps_set keeps_refl (fun _ h => by
          rcases h with h | h
          · have : W0.heap.size + 2 ≤ w.heap.size + 2 := h; omega
          · have := (osl_lt hown9 _ h.symm).1; have h' : W0.heap.size + 2 ≤ w.heap.size + 2 := this; omega) _)
        rw [List.map_append, List.filter_append, List.map_singleton, filter_one, HPX.out, hh, ← HQ.out]
        simpa using h9
      · rw [List.map_append, H4.out, List.length_append]
        show _ ++ [x.at_] = _
        rw [Q6.out]
        exact (range_map f pre.length).symm
      · exact ext_set (ext_grow (ext_alloc (ext_trans h5 hx3) _) hg9 (fun j hj => by have := (hown j hj).1; omega)) (show w.heap.size ≤ w.heap.size + 2 by omega) _
  case done =>
    rintro xs W hlen ⟨v, h1, h2, h2', h3, h4, h5⟩ hsz hK
    obtain ⟨ao, no, co, rfl⟩ := osl_slice h3
    have hfin := osl_rsl gAt h3 (G := fun j => W0.heap.size + 2 ≤ j) (fun j hj _ => hj) (fun j hj => hj)
    have hWs := h5.size
    have hlx : w.heap.size + 2 < W.heap.size := by omega
    have hbx : w.heap.size < W.heap.size := by omega
    have hbW : b < W.heap.size := by omega
    have hd := HD.out W h5
    have HDW := Lib.hid (fun (V : World) (hx : Ext W V) => HD.out V (ext_trans h5 hx))
    have c0 := hd.c0
    have f0 := hd.fz 0
    obtain ⟨fl, hfl⟩ : ∃ fl, fl = (atomsR ((l, c), sx.data.toList)).filter pk := ⟨_, rfl⟩
    have hfe : (xs.map Yd.at_).filter pk = fl := by rw [hfl, HAT.out, h4, hlen]
    rw [hfe] at hfin
    have hrf : RightA fl := by rw [hfl]; exact filter_right HRA.out
    have hfl60 : fl.length ≤ 300 := by
      rw [hfl]
      refine Nat.le_trans (List.length_filter_le _ _) ?_
      rw [HAT.out]; simp; omega
    have HMR := Lib.hid (fun (V : World) (hx : Ext W V) => (merge_any ((doer_atoms hd).ext gAt hx) (hfin.ext gAt hx) HSR.out hrf hl3 hfl60))
    have HRS := Lib.hid (show mergeA la fl = putNs lg la (atomsR ((l, c), sx.data.toList)) by rw [putNs_merge, hfl, HPK.out])
    have HH5 := Lib.hid h5
    have HKK := Lib.hid hK
    clear h3 h4 hfin hfl hfe hrf hd hK HDW
    have hmx : Tryz.prog.follows .mixedOrders = true := fol
    have h1n : 1 ≤ 6 := by omega
    gi_wp2
    refine wpIn_only ?_
    refine wpIn_wide.2 ?_
    go_region_law ((go_simp; go_at_call 68; go_must ((with_reducible refine (HMR.out _ extA).mono ?_); rintro e w8 ⟨v8, rfl, hv8, hx8⟩; obtain ⟨a8, n8, c8, rfl⟩ := osl_slice hv8; have HV8 := Lib.hid hv8; have HX8 := Lib.hid hx8; have hs8 := hx8.size; (try simp at hs8); have m0 := (hx8.cells b 0 (by first | omega | (simp <;> omega))).trans (show _ = some (.slice av nv cv) by first | assumption | go_simp); have mf := (hx8.frz b 0 (by first | omega | (simp <;> omega))).trans (show _ = false by first | assumption | go_simp); have m1 := (hx8.cells w.heap.size 0 (by first | omega | (simp <;> omega))).trans (show _ = some (.pointer (some ⟨b, 0, none⟩)) by first | assumption | go_simp); clear hv8)))
    all_goals go_wp2
    all_goals dsimp only [onlyN]
    all_goals
      have hxw : Ext w W.drew := ext_drew HH5.out
      have hb8 : b < w8.heap.size := by omega
      have hdf : (w8.setCell ⟨b, 0, none⟩ (.slice a8 n8 c8)).heap[W0.heap.size]? = some (.deferred (some [])) :=
        (Below.heap_setCell w8 ⟨b, 0, none⟩ _ _ (fun e => by have e' : W0.heap.size = b := e; omega)).trans ((Below.block HX8.out _ (show W0.heap.size < W.heap.size by omega)).trans HKK.out)
      have hd8 := HD.out w8 (ext_trans hxw HX8.out)
      refine ⟨by simp, .inl ⟨_, _, rfl, run_takeDeferred hdf, ?_⟩⟩
      refine ⟨.tuple #[], by simp [results, Tryz.results128, go_sem], rfl, ⟨_, _, doer_new0 (s := (la, lg)) (HD.out w (ext_refl w)) hxw (by rw [← HRS.out]; exact HV8.out) HX8.out HZ.out ?_ ?_ ?_ (fun o => ?_)⟩, ?_⟩
      · refine Keeps.trans (keeps_set keeps_refl (fun _ h => ?_) _) (keeps_putObj (fun h => ?_) _)
        · rcases h with h | h
          · exact h.2 rfl
          · have h' : W.heap.size ≤ b := h; omega
        · rcases h with h | h
          · omega
          · have h' : W.heap.size ≤ W0.heap.size := h; omega
      · refine (cell_putObj (by omega) 0 _).trans ?_
        go_simp
      · refine (cell_putObj (by omega) 1 _).trans ?_
        have := hd8.c1
        go_simp
      · refine (frz_putObj (by omega) o _).trans ?_
        have := hd8.fz o
        go_simp
      · exact kept_putObj (kept_set (kept_trans (kept_ext hxw) (kept_ext HX8.out)) hd8.nz _) (fun h => by have := HZ.out _ h; omega) _
end Go.Proofs.YtfgfdohppgoajaaGreat
