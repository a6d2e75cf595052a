/- The atoms of a run, one by one: the iterator. -/
import Derived.RangeFuncNested
import Derived.RangeFuncBound
import Derived.RangeFuncCalls
import Derived.RangeFuncLeaves
import Derived.Shelf.Abstract
import Derived.Shelf.RegionOpen
import Derived.WalkKit
import Derived.OwnWalkIn
import Derived.TacticsInMore
import Derived.LoopNIn
import Derived.LoopIn
import Derived.Test.YtfgfdohppgoajaaGreatQc59f2bc722
import Derived.Test.YtfgfdohppgoajaaGreatQebf1797204
set_option linter.unusedVariables false
set_option linter.unusedSimpArgs false
namespace Go.Proofs.YtfgfdohppgoajaaGreat
open Go Go.RowKit Go.BigFrame Cp

attribute [local go_sem] Oper.semAt_some
/-- an atom as it is handed on -/
structure Yd where
  a : Option Addr
  n : Nat
  c : Nat
  at_ : At
def encY (y : Yd) : Array Value := #[.agg #[.slice y.a y.n y.c, .int .i64 y.at_.1.2, .int .u8 (y.at_.2.toNat : Int)]]
def RpY (f : Nat → At) (B : Nat) (W : World) (k : Nat) (y : Yd) : Prop := y.at_ = f k ∧ RSl RStp 2 (fun j => B ≤ j) W (.slice y.a y.n y.c) y.at_.1.1 ∧ I64 y.at_.1.2
theorem each_any {w : World} (a : Option Addr) (n c : Nat) (k : Int) (s : ByteArray) :
    Calls Tryz.prog 75 #[.agg #[.slice a n c, .int .i64 k, .string s]] w fun e w' => e = .returned (.func (.func 121) #[] #[.pointer (some ⟨w.heap.size, 0, none⟩)]) ∧ w' = w.alloc (.cells #[.slice a n c, .int .i64 k, .string s] 61) := by
  go_enter Tryz.func75, Tryz.ntmps75
  go_wp2
  go_ret
  exact ⟨rfl, rfl⟩

set_option maxRecDepth 100000 in
set_option maxHeartbeats 4000000 in
theorem each1_any {F : Nat → Prop} {n : Nat} (hn : 3 ≤ n) {w : World} {a1 : Option Addr} {n1 c1 Bn : Nat} {Fk : Nat → Prop} {l : List Stp} {c : Int} {s : ByteArray} (hB : Fk Bn) (hBw : Bn < w.heap.size)
    (hl : RSl RStp 2 F w (.slice a1 n1 c1) l) (hF : ∀ j, F j → Fk j) (hi : I64 c) (hr : checkR ((l, c), s.data.toList) = 0)
    (z0 : w.cell? ⟨Bn, 0, none⟩ = some (.slice a1 n1 c1)) (z1 : w.cell? ⟨Bn, 1, none⟩ = some (.int .i64 c)) (z2 : w.cell? ⟨Bn, 2, none⟩ = some (.string s)) :
    SeqX Fence.wide n Tryz.prog 121 #[.pointer (some ⟨Bn, 0, none⟩)] encY (RpY fun i => (afterM (l, c) (i : Int), s.data.toList.getD i 0)) s.size Fk w := by
  intro ll J W hW hJe hY h0
  obtain ⟨hc1, hc2, hc3, _, _⟩ := checkR_parts hr
  simp only at hc1 hc2 hc3
  have hs60 : s.size ≤ 60 := by simpa using hc3
  have HAF := Lib.hid (fun (k : Nat) (hk : k < s.size) (V : World) (hx : Keeps Fk w V) => after_any (k := (k : Int)) (rmk_of' (hl.keep gStp (hx.weaken (fun j _ hj => hF j hj))) hi) (check_len hc1) (check_ne hc1) (check_digit hc1) (check_clock hc1) ⟨by omega, by omega⟩)
  have HIC := Lib.hid (check_clock hc1)
  clear hr hc1 hc2 hc3
  have HY := Lib.hid hY
  have HJ := Lib.hid hJe
  have HW := Lib.hid (show Keeps Fk w W from .of_below hW)
  clear hY hJe
  refine callsIn_of_wp Tryz.func121 rfl trivial ?_ rfl
  simp only [Tryz.ntmps121, List.size_toArray, List.length_cons, List.length_nil, Nat.reduceAdd, Nat.reduceSub, Array.replicate_succ, Array.replicate_zero, List.push_toArray, List.append_toArray, List.nil_append, List.cons_append]
  have y2 := (World.cell?_of_block (a := ⟨Bn, 2, none⟩) (HW.out.block Bn hB hBw)).trans z2
  gi_wp2
  gi_loopw [7] (fun i wr => ∃ pre : List Yd, pre.length ≤ s.size ∧ i = .int .i64 (pre.length : Nat) ∧ J pre wr ∧ Keeps Fk w wr) (fun i _ => s.size - (intOf i).toNat)
  case atStart => exact ⟨[], Nat.zero_le _, rfl, h0, HW.out⟩
  case round =>
    obtain ⟨pre, hk, rfl, hJs, hb⟩ := hrel
    have x0 := (World.cell?_of_block (a := ⟨Bn, 0, none⟩) (hb.block Bn hB hBw)).trans z0
    have x1 := (World.cell?_of_block (a := ⟨Bn, 1, none⟩) (hb.block Bn hB hBw)).trans z1
    have x2 := (World.cell?_of_block (a := ⟨Bn, 2, none⟩) (hb.block Bn hB hBw)).trans z2
    have hbs := hb.size
    by_cases hlt : pre.length < s.size
    · have hBr : Bn < wr.heap.size := by omega
      have hmx : Tryz.prog.follows .mixedOrders = true := fol
      have h1n : 1 ≤ n := by omega
      gi_wp2
      gi_region_with_o (first | (refine ⟨trivial, ?_⟩; refine (callsIn_wide.2 (HAF.out pre.length hlt _ (by first | exact hb | exact keeps_drew hb))).mono ?_; rintro e w2 ⟨cs2, rfl, hm2, hx2⟩; have HM2 := Lib.hid (omk_mk hm2); obtain ⟨v2, rfl, hv2, hi2⟩ := hm2; obtain ⟨a3, n3, c3, rfl⟩ := osl_slice hv2; have q0 := (hx2.cells Bn 0 (by simpa using hBr)).trans (show _ = some (.slice a1 n1 c1) by go_simp); have q1 := (hx2.cells Bn 1 (by simpa using hBr)).trans (show _ = some (.int .i64 c) by go_simp); have q2 := (hx2.cells Bn 2 (by simpa using hBr)).trans (show _ = some (.string s) by go_simp); have hxx : Ext wr w2 := ext_trans (by first | exact ext_refl _ | exact ext_drew (ext_refl _)) hx2; obtain ⟨fn, tmps, asg, bdy, hy, hR⟩ := HY.out pre ⟨a3, n3, c3, afterM (l, c) (pre.length : Int), s[pre.length]⟩ wr w2 hJs hxx ⟨by show (_, _) = (_, _); rw [byte_getD hlt], RSl.more gStp (fun j hj _ => (show wr.heap.size ≤ j by simpa using hj)) (rmk_path HM2.out), hi2⟩ hlt; dsimp only [encY] at hy; clear hv2) | (refine hR.mono ?_; rintro e W3 ⟨rfl, hJ3, hk3⟩))
      all_goals gi_wp2
      all_goals go_roundw
      all_goals first
        | exact ⟨pre ++ [⟨a3, n3, c3, afterM (l, c) (pre.length : Int), s[pre.length]⟩], by simp; omega, by simp, hJ3, hb.trans ((Keeps.of_below hxx).trans hk3)⟩
        | (simp [intOf]; omega)
    · gi_wp2
      go_end0
      exact ⟨⟨_, rfl⟩, pre, by omega, hJs⟩
end Go.Proofs.YtfgfdohppgoajaaGreat
