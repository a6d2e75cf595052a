/- Bytes that are written: a box that holds a row of one's own. -/
import Derived.Test.YtiladkinndgeaaaQa28958c9c8
import Derived.Test.YtiladkinndgeaaaQ3d8d5b10c6
import Derived.Test.YtiladkinndgeaaaQ21d56623e5
import Derived.Test.YtiladkinndgeaaaQ88da264e40
import Derived.Lib.AppendStr
import Derived.Test.YtiladkinndgeaaaQ93f6ba8a8c
import Derived.Deep.RegionLaw
import Derived.Deep.Cut
set_option linter.unusedVariables false
set_option linter.unusedSimpArgs false
namespace Go.Proofs.Ytiladkinndgeaaa
open Go Go.RowKit Go.BigFrame Cp

def RBy (_ : Nat → Prop) (_ : World) (cs : List Value) (c : UInt8) : Prop := cs = [.int .u8 c.toNat]
theorem gBy : Cp.Good RBy := ⟨fun _ h => h, fun _ h => h⟩
theorem one_by : ∀ F w cs (y : UInt8), RBy F w cs y → ∀ u ∈ cs, u.oneCell' = true := by rintro F w cs y rfl u hu; simp at hu; subst hu; rfl
theorem lf_by : ∀ F G w w' cs (x : UInt8), RBy F w cs x → RBy G w' cs x := fun _ _ _ _ _ _ h => h
theorem info_u8 : (Try.prog.info? 5).map (fun i => (i.zero, i.size, i.bytes)) = some (some (.int .u8 0), 1, 1) := by kernel_rfl
theorem by_len {a b : Nat} (h : a ≤ 1000000) (k : b ≤ 1000000) : a + b ≤ maxLen := Nat.le_trans (by omega : a + b ≤ 2000000) (by unfold maxLen; decide)
theorem by_byt {a b : Nat} (h : a ≤ 1000000) (k : b ≤ 1000000) : (a + b) * 1 ≤ 140737488355328 := by omega
theorem b8_conv (n : Int) : Value.int .u8 (IntKind.u8.wrap n) = .int .u8 ((b8 n).toNat : Nat) := by
  unfold b8
  rw [UInt8.toNat_ofNat']
  show Value.int .u8 (n % 256) = _
  congr 1
  omega
/-- a row of bytes of one's own, in a box; none of Z is one of them -/
def WrIs (Z : Nat → Prop) (b : Nat) (l : Tx) (W : World) (u : Value) : Prop :=
  W.cell? ⟨b, 0, none⟩ = some u ∧ W.frozen? ⟨b, 0, none⟩ = false ∧ OSl RBy 1 5 0 (fun _ => True) W u l ∧ (∀ j, u.ownBlock = some j → j ≠ b ∧ ¬ Z j) ∧ ¬ Z b
def WrAt (Z : Nat → Prop) (b : Nat) (l : Tx) (W : World) : Prop := ∃ u, WrIs Z b l W u
/-- what a writing leaves -/
def IsWr (Z : Nat → Prop) (b : Nat) (l : Tx) (w : World) (e : Ending) (w' : World) : Prop := e = .returned (.tuple #[]) ∧ WrAt Z b l w' ∧ Kept Z w w'
section
variable {Z : Nat → Prop} {b : Nat} {l : Tx} {w w' : World} {u : Value}
theorem wr_lt (h : WrIs Z b l w u) : b < w.heap.size := World.block_lt_of_cell? _ _ h.1
theorem wr_ext (h : WrIs Z b l w u) (hx : Ext w w') : WrIs Z b l w' u := by
  have hb := wr_lt h
  obtain ⟨h1, h2, h3, h4, h5⟩ := h
  exact ⟨(hx.cells _ _ hb).trans h1, (hx.frz _ _ hb).trans h2, osl_ext gBy h3 hx, h4, h5⟩
theorem wr_z {Y : Nat → Prop} (h : WrIs Z b l w u) (hy : ∀ j, Y j → Z j ∨ w.heap.size ≤ j) : WrIs Y b l w u := by
  have hb := wr_lt h
  obtain ⟨h1, h2, h3, h4, h5⟩ := h
  refine ⟨h1, h2, h3, fun j hj => ⟨(h4 j hj).1, fun hy' => ?_⟩, fun hy' => ?_⟩
  · rcases hy j hy' with h | h
    · exact (h4 j hj).2 h
    · have := (osl_lt h3 j hj).2; omega
  · rcases hy b hy' with h | h
    · exact h5 h
    · omega
theorem wrAt_ext (h : WrAt Z b l w) (hx : Ext w w') : WrAt Z b l w' := by obtain ⟨u, h⟩ := h; exact ⟨u, wr_ext h hx⟩
theorem wrAt_z {Y : Nat → Prop} (h : WrAt Z b l w) (hy : ∀ j, Y j → Z j ∨ w.heap.size ≤ j) : WrAt Y b l w := by obtain ⟨u, h⟩ := h; exact ⟨u, wr_z h hy⟩
theorem wrAt_lt (h : WrAt Z b l w) : b < w.heap.size := by obtain ⟨u, h⟩ := h; exact wr_lt h
theorem wr_cell {w0 : World} {v : Value} (hw : WrIs Z b l w0 v) (hg : w.grownBy w' v.ownBlock) (hx : Ext w0 w) : w'.cell? ⟨b, 0, none⟩ = some v ∧ w'.frozen? ⟨b, 0, none⟩ = false := by
  have hb := wr_lt hw
  have hbw : b < w.heap.size := Nat.lt_of_lt_of_le hb hx.size
  have hbo : some b ≠ v.ownBlock := fun e => (hw.2.2.2.1 b e.symm).1 rfl
  exact ⟨(World.cell?_of_block (a := ⟨b, 0, none⟩) (hg.block b hbw hbo)).trans ((hx.cells _ _ hb).trans hw.1), (World.frozen?_of_block (a := ⟨b, 0, none⟩) (hg.block b hbw hbo)).trans ((hx.frz _ _ hb).trans hw.2.1)⟩
/-- a byte more: the row has grown, and is put back -/
theorem wr_store {n c : Nat} {w0 : World} {v : Value} {l' : Tx} {x : Option Addr} (hw : WrIs Z b l w0 v) (hz : ∀ j, Z j → j < w0.heap.size) (hg : w.grownBy w' v.ownBlock) (hx : Ext w0 w) (hat : (Value.slice x n c).ownBlock = v.ownBlock ∨ (Value.slice x n c).ownBlock = some w.heap.size)
    (ho : OSl RBy 1 5 0 (fun _ => True) w' (.slice x n c) l') : WrAt Z b l' (w'.setCell ⟨b, 0, none⟩ (.slice x n c)) ∧ Kept Z w0 (w'.setCell ⟨b, 0, none⟩ (.slice x n c)) := by
  have hb := wr_lt hw
  obtain ⟨hc, hf⟩ := wr_cell hw hg hx
  obtain ⟨h1, h2, h3, h4, h5⟩ := hw
  have hnb : ∀ j, (Value.slice x n c).ownBlock = some j → j ≠ b ∧ ¬ Z j := fun j hj => by
    rcases hat with h | h
    · exact h4 j (h.symm.trans hj)
    · rw [h] at hj; injection hj with hj
      have := hx.size
      exact ⟨by omega, fun k => by have := hz j k; omega⟩
  refine ⟨⟨_, World.cell?_setCell_same _ _ _ hc, ?_, ?_, hnb, h5⟩, ?_⟩
  · rw [World.frozen?_setCell]; exact hf
  · exact osl_lkeep lf_by ho fun k hk => Below.heap_setCell _ _ _ k (fun e => (hnb k hk).1 e)
  · exact kept_set (kept_trans (kept_ext hx) (kept_grown hg (fun k hk e => (h4 k e.symm).2 hk))) h5 _
end
set_option maxRecDepth 100000 in
set_option maxHeartbeats 4000000 in
theorem put_any {Z : Nat → Prop} {w : World} {b : Nat} {l : Tx} {v : Value} {xs : List Int} (h : WrAt Z b l w) (hz : ∀ j, Z j → j < w.heap.size) (hv : RSl RInt 1 Z w v xs) (hl : l.length ≤ 900000) (hx : xs.length ≤ 1000) :
    Calls Try.prog 22 #[.pointer (some ⟨b, 0, none⟩), v] w (IsWr Z b (l ++ xs.map b8) w) := by
  have HV := Lib.hid (fun (W : World) (hk : Kept Z w W) => hv.keep gInt hk.keeps)
  obtain ⟨a0, n0, c0, rfl⟩ := hv.slice
  obtain rfl : n0 = xs.length := hv.len.1
  have hb := wrAt_lt h
  have HW := Lib.hid h
  obtain ⟨i0, hi0, hz0, hz1', hz2⟩ := info_parts info_u8
  have HJ := Lib.hid hi0
  have HZ0 := Lib.hid hz0
  have HZ1 := Lib.hid hz1'
  have HZ2 := Lib.hid hz2
  have HZZ := Lib.hid hz
  clear hi0 hz0 hz1' hz2 hv h hz
  go_enter Try.func22, Try.ntmps22
  go_wp2_with fail
  go_loopw [8] (fun iv wr => ∃ k : Nat, k ≤ xs.length ∧ iv = .int .i64 k ∧ Hid (WrAt Z b (l ++ (xs.take k).map b8) wr) ∧ Hid (Kept Z w wr)) (fun iv _ => xs.length - (intOf iv).toNat)
  case atStart => exact ⟨0, Nat.zero_le _, rfl, Lib.hid (by simpa using wrAt_ext HW.out extA), Lib.hid (kept_ext extA)⟩
  case round =>
    obtain ⟨k, hk, rfl, HA, HK⟩ := hrel
    by_cases hlt : k < xs.length
    · obtain ⟨g, o, x, rfl, hg, ek, hi, y0⟩ := int_at (HV.out wr HK.out) hlt
      obtain ⟨u, hu⟩ := HA.out
      have HE := Lib.hid (take_snocG ek)
      have hc := hu.1
      have hf := hu.2.1
      have HO := Lib.hid hu.2.2.1
      obtain ⟨a3, n3, c3, rfl⟩ := osl_slice hu.2.2.1
      obtain rfl := (osl_len hu.2.2.1).1
      have HFL := Lib.hid (show (l ++ (xs.take k).map b8).length ≤ 1000000 by rw [List.length_append, List.length_map, List.length_take]; omega)
      have HU := Lib.hid hu
      have hbr : b < wr.heap.size := wr_lt hu
      have hbn : ¬ b = wr.heap.size := by omega
      have HS := Lib.hid (show (l ++ (xs.take k).map b8) ++ [b8 x] = l ++ (xs.take (k + 1)).map b8 by rw [HE.out]; simp)
      have hcv := b8_conv x
      clear hu ek
      generalize l ++ (xs.take k).map b8 = fl at *
      go_wp2_with (first | (at_builtin; go_must (refine wpList_appAll gBy rfl (.tmp 16) (.tmp 19) 49 rfl 0 5 i0 _ 1 1 Try.underlying49 HJ.out HZ0.out HZ1.out HZ2.out rfl (by omega) (F := fun _ => True) (G := fun j => j = wr.heap.size) (.slice a3 fl.length c3) fl rfl (osl_ext gBy HO.out extA) (.slice (some ⟨wr.heap.size, 0, none⟩) 1 1) [b8 x] rfl (rd_one rfl (rangeAt1 (by first | (with_reducible assumption) | go_simp)) (show RBy _ _ [_] (b8 x) from rfl) rfl (by first | omega | (simp <;> omega)) (Nat.le_refl _) (by unfold maxLen; omega)) one_by (fun j hj _ => ⟨trivial, fun e => by have := (osl_lt HO.out j e.symm).2; omega⟩) (by_len HFL.out (Nat.le_trans (Nat.le_refl 1) (by decide))) (by_byt HFL.out (Nat.le_trans (Nat.le_refl 1) (by decide))) (Nat.zero_le _) ?_; intro v9 w9 hown9 hg9 hat9; obtain ⟨a9, n9, c9, rfl⟩ := osl_slice hown9; obtain ⟨hc9, hf9⟩ := wr_cell HU.out hg9 (ext_alloc (ext_refl _) _); have HS9 := Lib.hid (wr_store HU.out (fun j hj => Nat.lt_of_lt_of_le (HZZ.out j hj) HK.out.size) hg9 (ext_alloc (ext_refl _) _) hat9 hown9); clear hg9 hat9 hown9)))
      go_roundw
      case rel => exact ⟨k + 1, by omega, by go_num, Lib.hid (by rw [← HS.out]; exact HS9.out.1), Lib.hid (kept_trans HK.out HS9.out.2)⟩
      case measure => simp [intOf]; omega
    · obtain rfl : k = xs.length := by omega
      rw [List.take_of_length_le (Nat.le_refl _)] at HA
      go_wp2_with fail
      go_end0
      exact ⟨rfl, HA.out, HK.out⟩
end Go.Proofs.Ytiladkinndgeaaa
/- Bytes that are written: numbers of two bytes, marks. -/
namespace Go.Proofs.Ytiladkinndgeaaa
open Go Go.RowKit Go.BigFrame Cp

theorem put_new {Z : Nat → Prop} {w0 w : World} {b : Nat} {l : Tx} {v : Value} {xs : List Int} (h : WrAt Z b l w0) (hx : Ext w0 w) (hz : ∀ j, Z j → j < w0.heap.size) (hv : RSl RInt 1 (fun j => w0.heap.size ≤ j) w v xs) (hl : l.length ≤ 900000) (hn : xs.length ≤ 1000) :
    Calls Try.prog 22 #[.pointer (some ⟨b, 0, none⟩), v] w fun e w' => e = .returned (.tuple #[]) ∧ WrAt Z b (l ++ xs.map b8) w' ∧ Kept Z w0 w' := by
  have hs := hx.size
  refine (put_any (Z := fun j => Z j ∨ (w0.heap.size ≤ j ∧ j < w.heap.size)) (wrAt_ext (wrAt_z h (fun j hj => hj.elim .inl (fun hj => .inr hj.1))) hx) (fun j hj => ?_) (RSl.more gInt (fun k hk hl => .inr ⟨hk, hl⟩) hv) hl hn).mono ?_
  · rcases hj with hj | hj
    · exact Nat.lt_of_lt_of_le (hz j hj) hs
    · exact hj.2
  · rintro e w' ⟨rfl, h1, h2⟩
    exact ⟨rfl, wrAt_z h1 (fun j hj => .inl (.inl hj)), kept_trans (kept_ext hx) (h2.less (fun k hk => .inl hk))⟩
theorem rd_ints {F : Nat → Prop} {w : World} {b c : Nat} {xs : List Int} (h : ∀ i x, xs[i]? = some x → w.cell? ⟨b, i, none⟩ = some (.int .i64 x) ∧ I64 x) (hF : F b) (hb : b < w.heap.size) (h1 : xs.length ≤ c) (h2 : c ≤ maxLen) : RSl RInt 1 F w (.slice (some ⟨b, 0, none⟩) xs.length c) xs :=
  ⟨_, c, rfl, h1, h2, fun _ => ⟨b, 0, rfl, hF, hb, fun i x hi => ⟨[.int .i64 x], rfl, by simpa using rangeAt1 (h i x hi).1, rfl, (h i x hi).2⟩⟩⟩
theorem rd_int1 {F : Nat → Prop} {w : World} {b : Nat} {x : Int} (h : w.cell? ⟨b, 0, none⟩ = some (.int .i64 x)) (i : I64 x) (hF : F b) (hb : b < w.heap.size) : RSl RInt 1 F w (.slice (some ⟨b, 0, none⟩) 1 1) [x] :=
  rd_ints (xs := [x]) (fun j y hj => by match j, hj with | 0, hj => (have : x = y := by simpa using hj); subst this; exact ⟨h, i⟩) hF hb (Nat.le_refl 1) (by unfold maxLen; decide)
theorem rd_int2 {F : Nat → Prop} {w : World} {b : Nat} {x y : Int} (h : w.cell? ⟨b, 0, none⟩ = some (.int .i64 x)) (k : w.cell? ⟨b, 1, none⟩ = some (.int .i64 y)) (i : I64 x) (j : I64 y) (hF : F b) (hb : b < w.heap.size) : RSl RInt 1 F w (.slice (some ⟨b, 0, none⟩) 2 2) [x, y] :=
  rd_ints (xs := [x, y]) (fun n z hz => by
    match n, hz with
    | 0, hz => (have : x = z := by simpa using hz); subst this; exact ⟨h, i⟩
    | 1, hz => (have : y = z := by simpa using hz); subst this; exact ⟨k, j⟩) hF hb (Nat.le_refl 2) (by unfold maxLen; decide)
theorem shr8 {n : Int} (h : 0 ≤ n) (k : n ≤ 100000) : I64 (n / 256) := ⟨by omega, by omega⟩
set_option maxRecDepth 100000 in
set_option maxHeartbeats 4000000 in
theorem two_any {Z : Nat → Prop} {w : World} {b : Nat} {l : Tx} {n : Int} (h : WrAt Z b l w) (hz : ∀ j, Z j → j < w.heap.size) (h0 : 0 ≤ n) (h1 : n ≤ 100000) (hl : l.length ≤ 900000) :
    Calls Try.prog 23 #[.pointer (some ⟨b, 0, none⟩), .int .i64 n] w (IsWr Z b (l ++ twoB n) w) := by
  have HP := Lib.hid (fun (W : World) (v : Value) (hx : Ext w W) (hv : RSl RInt 1 (fun j => w.heap.size ≤ j) W v [n, n / 256]) => put_new h hx hz hv hl (show 2 ≤ 1000 by omega))
  have HI := Lib.hid (i64_small (Int.le_trans (by decide) h0) h1)
  have HJ := Lib.hid (shr8 h0 h1)
  have hb := wrAt_lt h
  clear h hz hl h0 h1
  go_enter Try.func23, Try.ntmps23
  go_wp2_with (first | (go_at_call 22; go_must ((with_reducible refine (HP.out _ _ extA (rd_int2 (x := n) (y := n / 256) (by first | (with_reducible assumption) | go_simp) (by first | (with_reducible assumption) | go_simp) HI.out HJ.out (Nat.le_refl _) (by first | omega | (simp <;> omega)))).mono ?_); rintro e w1 ⟨rfl, HA1, HK1⟩; skip)))
  go_end0
  exact ⟨rfl, HA1, HK1⟩
end Go.Proofs.Ytiladkinndgeaaa
/- Bytes that are written: a mark's. -/
namespace Go.Proofs.Ytiladkinndgeaaa
open Go Go.RowKit Go.BigFrame Cp

theorem flat_snoc {α : Type} {f : α → Tx} {l : List α} {k : Nat} {x : α} (h : l[k]? = some x) : (l.take (k + 1)).flatMap f = (l.take k).flatMap f ++ f x := by
  rw [take_snocG h, List.flatMap_append]; simp
theorem stpB_len {l : List Stp} : (l.flatMap stpB).length = l.length * 2 := by
  induction l with
  | nil => rfl
  | cons a l ih => rw [List.flatMap_cons, List.length_append, ih, List.length_cons]; show 2 + _ = _; omega
theorem take_flat_len {l : List Stp} (k : Nat) (h : l.length ≤ 1000) : ((l.take k).flatMap stpB).length ≤ 2000 := by rw [stpB_len, List.length_take]; omega
set_option maxRecDepth 100000 in
set_option maxHeartbeats 4000000 in
theorem markW_any {Z F : Nat → Prop} {w : World} {b : Nat} {l : Tx} {cs : List Value} {m : Mk} (h : WrAt Z b l w) (hz : ∀ j, Z j → j < w.heap.size) (hm : RMk F w cs m) (hF : ∀ j, F j → Z j) (hp : m.1.length ≤ 1000) (h0 : 0 ≤ m.2) (h1 : m.2 ≤ 100000) (hl : l.length ≤ 800000) :
    Calls Try.prog 49 #[.pointer (some ⟨b, 0, none⟩), .agg cs.toArray] w (IsWr Z b (l ++ markB m) w) := by
  have HLP := Lib.hid (show m.1.length ≤ 1000 from hp)
  obtain ⟨v, rfl, hv, hi⟩ := hm
  obtain ⟨p, cl⟩ := m
  simp only at hv hi hp h0 h1 HLP ⊢
  obtain ⟨a0, n0, c0, rfl⟩ := hv.slice
  obtain rfl : n0 = p.length := hv.len.1
  have HV := Lib.hid (fun (W : World) (hk : Kept Z w W) => (hv.more gStp (fun k hk _ => hF k hk) |>.keep gStp hk.keeps))
  have HW := Lib.hid (fun (W : World) (hx : Ext w W) (y : 0 < 1) => wrAt_ext (wrAt_z (Y := fun j => Z j ∨ j = w.heap.size) h (fun j hj => hj.elim .inl (fun e => .inr (by omega)))) hx)
  have HZ := Lib.hid hz
  have hb := wrAt_lt h
  have hbn : ¬ b = w.heap.size := by omega
  have HI := Lib.hid (show I64 (p.length : Int) from i64_small (by omega) (by omega))
  have H0 := Lib.hid h0
  have H1 := Lib.hid h1
  have HLN := Lib.hid hl
  have hp' : p.length ≤ 1000 := hp
  clear h hz hv hi h0 h1 hF hp hl
  go_enter Try.func49, Try.ntmps49
  go_upto_if 15 with (first | (go_at_call 22; go_must ((with_reducible refine (put_new (xs := [(p.length : Int)]) (w0 := w.alloc (.cells #[.slice a0 p.length c0, .int .i64 cl] 56)) (HW.out _ extA (by decide)) extA (fun j hj => hj.elim (fun hj => Nat.lt_of_lt_of_le (HZ.out j hj) (by simp)) (fun e => by subst e; simp)) (rd_int1 (by first | (with_reducible assumption) | go_simp) HI.out (by simp) (by first | omega | (simp <;> omega))) (Nat.le_trans HLN.out (by decide)) (Nat.le_trans (Nat.le_refl 1) (by decide))).mono ?_); rintro e w1 ⟨rfl, HA1, HK1⟩; have c1_0 := (HK1.cell (.inr rfl) (by simp) 0).trans (show _ = some (.slice a0 p.length c0) by go_simp); have c1_1 := (HK1.cell (.inr rfl) (by simp) 1).trans (show _ = some (.int .i64 cl) by go_simp))))
  refine wp_name (fun W2 eW2 => ?_)
  have HA2 := Lib.hid (show WrAt (fun j => Z j ∨ j = w.heap.size) b (l ++ [b8 p.length]) W2 by rw [eW2]; exact wrAt_ext HA1 extA)
  have HK2 := Lib.hid (show Kept (fun j => Z j ∨ j = w.heap.size) w W2 by rw [eW2]; exact kept_trans (kept_trans (kept_ext extA) HK1) (kept_ext extA))
  have x0 : W2.cell? ⟨w.heap.size, 0, none⟩ = some (.slice a0 p.length c0) := by rw [eW2]; go_simp
  have x1 : W2.cell? ⟨w.heap.size, 1, none⟩ = some (.int .i64 cl) := by rw [eW2]; go_simp
  have z2 : w.heap.size < W2.heap.size := World.block_lt_of_cell? _ _ x0
  clear eW2 HA1 HK1 HW c1_0 c1_1
  go_loopw [15] (fun iv wr => ∃ k : Nat, k ≤ p.length ∧ iv = .int .i64 k ∧ Hid (WrAt (fun j => Z j ∨ j = w.heap.size) b (l ++ [b8 p.length] ++ (p.take k).flatMap stpB) wr) ∧ Hid (Kept (fun j => Z j ∨ j = w.heap.size) w wr) ∧ Hid (Kept (fun j => Z j ∨ j = w.heap.size) W2 wr)) (fun iv _ => p.length - (intOf iv).toNat)
  case atStart => exact ⟨0, Nat.zero_le _, rfl, Lib.hid (by simpa using HA2.out), HK2, Lib.hid kept_refl⟩
  case round =>
    obtain ⟨k, hk, rfl, HA, HK, HKW⟩ := hrel
    have y0 := (HKW.out.cell (.inr rfl) z2 0).trans x0
    have y1 := (HKW.out.cell (.inr rfl) z2 1).trans x1
    have zr : w.heap.size < wr.heap.size := World.block_lt_of_cell? _ _ y0
    have HZR := Lib.hid (show ∀ j, (Z j ∨ j = w.heap.size) → j < wr.heap.size from fun j hj => hj.elim (fun hj => Nat.lt_of_lt_of_le (HZ.out j hj) HK.out.size) (fun e => by omega))
    clear x0 x1
    by_cases hlt : k < p.length
    · obtain ⟨g, o, x, y, rfl, hg, ek, ix, iy, s0, s1⟩ := stp_at (HV.out wr (HK.out.less (fun _ h => .inl h))) hlt
      have HE := Lib.hid (flat_snoc (f := stpB) ek)
      have HIX := Lib.hid ix
      have HIY := Lib.hid iy
      have HN := Lib.hid (show (l ++ [b8 p.length] ++ (p.take k).flatMap stpB).length ≤ 900000 by rw [List.length_append, List.length_append]; have := take_flat_len k HLP.out; have := HLN.out; simp only [List.length_cons, List.length_nil]; omega)
      have HPP := Lib.hid (fun (W : World) (v : Value) (hx : Ext wr W) (hv : RSl RInt 1 (fun j => wr.heap.size ≤ j) W v [x, y]) => put_new HA.out hx HZR.out hv HN.out (show 2 ≤ 1000 by omega))
      have hgn : ¬ g = wr.heap.size := by omega
      clear ek ix iy
      go_wp2_with (first | (go_at_call 22; go_must ((with_reducible refine (HPP.out _ _ extA (rd_int2 (x := x) (y := y) (by first | (with_reducible assumption) | go_simp) (by first | (with_reducible assumption) | go_simp) HIX.out HIY.out (by first | omega | (simp <;> omega)) (by first | omega | (simp <;> omega)))).mono ?_); rintro e w3 ⟨rfl, HA3, HK3⟩; skip)))
      go_roundw
      case rel => exact ⟨k + 1, by omega, by go_num, Lib.hid (by rw [HE.out, ← List.append_assoc]; exact HA3), Lib.hid (kept_trans HK.out HK3), Lib.hid (kept_trans HKW.out HK3)⟩
      case measure => simp [intOf]; omega
    · obtain rfl : k = p.length := by omega
      have HA4 := Lib.hid (show WrAt (fun j => Z j ∨ j = w.heap.size) b (l ++ [b8 p.length] ++ p.flatMap stpB) wr by have := HA.out; rwa [List.take_of_length_le (Nat.le_refl _)] at this)
      have HN := Lib.hid (show (l ++ [b8 p.length] ++ p.flatMap stpB).length ≤ 900000 by rw [List.length_append, List.length_append, stpB_len]; have := HLN.out; simp only [List.length_cons, List.length_nil]; omega)
      have HTW := Lib.hid (fun (W : World) (hx : Ext wr W) => two_any (wrAt_ext HA4.out hx) (fun j hj => Nat.lt_of_lt_of_le (HZR.out j hj) hx.size) H0.out H1.out HN.out)
      have HS := Lib.hid (show l ++ [b8 p.length] ++ p.flatMap stpB ++ twoB cl = l ++ markB (p, cl) by unfold markB; simp)
      clear HA
      go_wp2_with (first | (go_at_call 23; go_must ((with_reducible refine (HTW.out _ extA).mono ?_); rintro e w5 ⟨rfl, HA5, HK5⟩; skip)))
      go_end0
      exact ⟨rfl, wrAt_z (by rw [← HS.out]; exact HA5) (fun j hj => Or.inl (Or.inl hj)), (kept_trans HK.out (kept_trans (kept_ext extA) HK5)).less (fun _ h => Or.inl h)⟩
end Go.Proofs.Ytiladkinndgeaaa
/- Bytes that are written: a deed's. -/
namespace Go.Proofs.Ytiladkinndgeaaa
open Go Go.RowKit Go.BigFrame Cp

def byV (c : UInt8) : Value := .int .u8 (c.toNat : Nat)
theorem osl_row {e : TypeId} {F : Nat → Prop} {w : World} {v : Value} {l : Tx} (h : OSl RBy 1 e 0 F w v l) : w.ownsRow 0 e 1 v l.length (l.map byV) := by
  obtain ⟨xs, h1, h2⟩ := h
  have e : xs = l.map byV := by
    apply List.ext_getElem?
    intro i
    by_cases hi : i < l.length
    · have := h2.2 i l[i] (List.getElem?_eq_getElem hi)
      have h3 : ((xs.drop (i * 1)).take 1)[0]? = some (byV l[i]) := by rw [this]; rfl
      rw [List.getElem?_take_of_lt (by decide), List.getElem?_drop] at h3
      rw [List.getElem?_map, List.getElem?_eq_getElem hi]
      simpa using h3
    · rw [List.getElem?_eq_none (by rw [h2.1]; omega), List.getElem?_eq_none (by rw [List.length_map]; omega)]
  rw [← e]
  exact h1
theorem row_osl {e : TypeId} {F : Nat → Prop} {w : World} {v : Value} {l : Tx} (h : w.ownsRow 0 e 1 v l.length (l.map byV)) : OSl RBy 1 e 0 F w v l := by
  refine ⟨_, h, by simp, fun i x hi => ?_⟩
  show (((l.map byV).drop (i * 1)).take 1) = [_]
  obtain ⟨h1, h2⟩ := List.getElem?_eq_some_iff.1 hi
  apply List.ext_getElem?
  intro j
  match j with
  | 0 => rw [List.getElem?_take_of_lt (by decide), List.getElem?_drop, List.getElem?_map, Nat.mul_one, Nat.add_zero, hi]; rfl
  | j + 1 => rw [List.getElem?_eq_none (by rw [List.length_take]; omega), List.getElem?_eq_none (by simp)]
theorem app_str_at {P : Program} {w w' : World} (t u ty e : TypeId) (i : TypeInfo) (ht : P.underlying t = some (.slice e)) (hu : P.underlying u = some .string) (hi : P.info? e = some i) (hz : i.zero = some (.int .u8 0)) (hsize : i.size = 1) (hby : i.bytes = 1)
    (v v' : Value) (n : Nat) (xs : List Value) (hown : w.ownsRow 0 e 1 v n xs) (s : ByteArray) (h63 : n + s.size ≤ maxLen) (hbytes : n + s.size ≤ 140737488355328)
    (hr : (Builtin.append_ #[t, u] ty #[v, .string s]).run P w = .ok v' w') : v'.ownBlock = v.ownBlock ∨ v'.ownBlock = some w.heap.size := by
  have hsmall : n + s.size ≤ 9223372036854775807 := by simp only [maxLen] at h63; omega
  have hxl : xs.length = n := by simpa using hown.1
  rcases hown.2 with ⟨rfl, rfl⟩ | ⟨g, cap, cur, rfl, hbg, hg, hnc, hcm, hcs, htake⟩
  · by_cases hm : s.size = 0
    · left
      have hf := Go.Lib.run_firstCells_string (P := P) w 1 s
      rw [hm] at hf
      have h0 : (Builtin.append_ #[t, u] ty #[.slice none 0 0, .string s]).run P w = .ok (.slice none 0 0) w := by
        simp [Builtin.append_, run_underlying ht, run_underlying hu, sizeOf, typeInfo, hi, hsize, Builtin.lenOf, hm, hf]
      rw [h0] at hr
      injection hr with h1 _
      subst h1; rfl
    · right
      rw [run_append_nil_string (P := P) w t u ty e i (.int .u8 0) ht hu hi hz s (by omega) (by omega) (by rw [hby]; omega)] at hr
      injection hr with h1 _
      subst h1; rfl
  · by_cases hroom : n + s.size ≤ cap
    · left
      have hcs' : cur.size = cap := by simpa using hcs
      rw [Go.Lib.run_append_room_string (P := P) w t u ty e i ht hu hi hsize g n cap cur hg s hroom (by omega)] at hr
      injection hr with h1 _
      subst h1; rfl
    · right
      have holds : ∀ j u, xs[j]? = some u → w.cell? ((⟨g, 0, none⟩ : Addr).add j) = some u := hown.cells (g := g) rfl
      rw [Go.Lib.run_append_grow_string (P := P) w t u ty e i (.int .u8 0) ht hu hi hz ⟨g, 0, none⟩ n cap xs (by rw [hsize]; simpa using hxl) holds s (by omega) (by omega) (by rw [hby]; exact growslice_fits (by omega) (by omega))] at hr
      injection hr with h1 _
      subst h1; rfl
theorem step_appStr {P : Program} {ops : Array Oper} {o : Oper} {a : Act} {K : Act → World → Prop} {Q : Exit → Act → World → Prop} {E : Prop} {w : World} (hgd : o.guard = none) (sl x : Operand) (t u : TypeId)
    (ho : o.op = .call { callee := .builtin .append, args := #[sl, x], argTypes := #[t, u] })
    (e : TypeId) (i : TypeInfo) (ht : P.underlying t = some (.slice e)) (hu : P.underlying u = some .string) (hi : P.info? e = some i) (hz : i.zero = some (.int .u8 0)) (hsize : i.size = 1) (hby : i.bytes = 1)
    {F : Nat → Prop} (v : Value) (l tx : Tx) (hs : a.eval sl = v) (hown : OSl RBy 1 e 0 F w v l) (hx : a.eval x = .string ⟨tx.toArray⟩)
    (h63 : l.length + tx.length ≤ maxLen) (hbytes : (l.length + tx.length) * 1 ≤ 140737488355328)
    (h : ∀ v' w', OSl RBy 1 e 0 F w' v' (l ++ tx) → w.grownBy w' v.ownBlock → (v'.ownBlock = v.ownBlock ∨ v'.ownBlock = some w.heap.size) → K (a.put o.dst v') w') : if Region.wanted o (yielded ops a.tmps) = true then Oper.wp P o a w K Q else E := by
  have hw : Region.wanted o (yielded ops a.tmps) = true := by simp [Region.wanted, hgd]
  rw [if_pos hw]
  have hrow := osl_row hown
  have hsz : (⟨tx.toArray⟩ : ByteArray).size = tx.length := by simp [ByteArray.size]
  obtain ⟨v', w', hr, h2, h3, _⟩ := Go.Lib.run_append_own_string (P := P) w 0 t u o.type e i ht hu hi hz hsize hby v l.length _ hrow ⟨tx.toArray⟩ (by rw [hsz]; exact h63) (by rw [hsz]; omega) (Nat.zero_le _)
  have h4 := app_str_at t u o.type e i ht hu hi hz hsize hby v v' l.length _ hrow ⟨tx.toArray⟩ (by rw [hsz]; exact h63) (by rw [hsz]; omega) hr
  unfold Oper.wp execOp
  simp only [ho, resolve, invoke, builtin, Sem.run_bind, Sem.run_pure, Result.andThen_ok, List.map_toArray, List.map_cons, List.map_nil, hs, hx, hr]
  refine h v' w' (row_osl ?_) h3 h4
  have e1 : (l ++ tx).map byV = l.map byV ++ Go.Lib.strCells ⟨tx.toArray⟩ := by simp [Go.Lib.strCells, byV]
  rw [e1, List.length_append, ← hsz]
  exact h2
end Go.Proofs.Ytiladkinndgeaaa
/- Bytes that are written: a deed's. -/
namespace Go.Proofs.Ytiladkinndgeaaa
open Go Go.RowKit Go.BigFrame Cp

theorem markB_len {m : Mk} : (markB m).length = m.1.length * 2 + 3 := by
  unfold markB
  rw [List.length_cons, List.length_append, stpB_len]
  rfl
set_option maxRecDepth 100000 in
set_option maxHeartbeats 4000000 in
theorem deedW_any {Z F : Nat → Prop} {w : World} {b : Nat} {l : Tx} {cs : List Value} {d : De} (h : WrAt Z b l w) (hz : ∀ j, Z j → j < w.heap.size) (hd : RDe F w cs d) (hF : ∀ j, F j → Z j) (hk : checkD d = 0) (hl : l.length ≤ 700000) :
    Calls Try.prog 24 #[.pointer (some ⟨b, 0, none⟩), .agg cs.toArray] w (IsWr Z b (l ++ deedB d) w) := by
  obtain ⟨kd, ⟨rm, tx⟩, m, n⟩ := d
  obtain ⟨v, s, u, rfl, ik, hv, ic, ⟨rfl, hs⟩, hu, im, iy⟩ := hd
  simp only at ik hv ic hs hu im iy ⊢
  have HU := Lib.hid (fun (W : World) (hk : Kept Z w W) => (hu.more gStp (fun k hk _ => hF k hk) |>.keep gStp hk.keeps))
  have HV := Lib.hid (fun (W : World) (hk : Kept Z w W) => (hv.more gStp (fun k hk _ => hF k hk) |>.keep gStp hk.keeps))
  obtain ⟨a0, n0, c0, rfl⟩ := hv.slice
  obtain ⟨a1, n1, c1, rfl⟩ := hu.slice
  have HW := Lib.hid (fun (W : World) (hx : Ext w W) (y : 0 < 1) => wrAt_ext (wrAt_z (Y := (fun j => Z j ∨ j = w.heap.size)) h (fun j hj => hj.elim .inl (fun e => .inr (by omega)))) hx)
  have HZ := Lib.hid hz
  have HZW := Lib.hid (fun (W : World) (hs : w.heap.size < W.heap.size) => (fun j hj => hj.elim (fun hj => Nat.lt_trans (hz j hj) hs) (fun e => e ▸ hs) : ∀ j, (Z j ∨ j = w.heap.size) → j < W.heap.size))
  have hb := wrAt_lt h
  have hbn : ¬ b = w.heap.size := by omega
  have HIK := Lib.hid ik
  have HIC := Lib.hid ic
  have HIM := Lib.hid im
  have HIY := Lib.hid iy
  have HLN := Lib.hid hl
  have HCK := Lib.hid hk
  clear h hz hv hu ik ic im iy hF hs hk hl
  go_enter Try.func24, Try.ntmps24
  go_upto_if 11 with (first | (go_at_call 22; go_must ((with_reducible refine (put_new (xs := [kd]) (w0 := (w.alloc (.cells #[.int .i64 kd, .slice a0 n0 c0, .int .i64 rm.2, .string ⟨tx.toArray⟩, .slice a1 n1 c1, .int .i64 m.2, .int .i64 n] 60))) (HW.out _ extA (by decide)) extA (fun j hj => hj.elim (fun hj => Nat.lt_of_lt_of_le (HZ.out j hj) (by simp)) (fun e => by subst e; simp)) (rd_int1 (by first | (with_reducible assumption) | go_simp) HIK.out (by simp) (by first | omega | (simp <;> omega))) (Nat.le_trans HLN.out (by decide)) (Nat.le_trans (Nat.le_refl 1) (by decide))).mono ?_); rintro e w1 ⟨rfl, HA1, HK1⟩; have c1_0 := (HK1.cell (.inr rfl) (by first | (with_reducible assumption) | (simp; done) | omega) 0).trans (show _ = some (.int .i64 kd) by first | (with_reducible assumption) | go_simp); have c1_1 := (HK1.cell (.inr rfl) (by first | (with_reducible assumption) | (simp; done) | omega) 1).trans (show _ = some (.slice a0 n0 c0) by first | (with_reducible assumption) | go_simp); have c1_2 := (HK1.cell (.inr rfl) (by first | (with_reducible assumption) | (simp; done) | omega) 2).trans (show _ = some (.int .i64 rm.2) by first | (with_reducible assumption) | go_simp); have c1_3 := (HK1.cell (.inr rfl) (by first | (with_reducible assumption) | (simp; done) | omega) 3).trans (show _ = some (.string ⟨tx.toArray⟩) by first | (with_reducible assumption) | go_simp); have c1_4 := (HK1.cell (.inr rfl) (by first | (with_reducible assumption) | (simp; done) | omega) 4).trans (show _ = some (.slice a1 n1 c1) by first | (with_reducible assumption) | go_simp); have c1_5 := (HK1.cell (.inr rfl) (by first | (with_reducible assumption) | (simp; done) | omega) 5).trans (show _ = some (.int .i64 m.2) by first | (with_reducible assumption) | go_simp); have c1_6 := (HK1.cell (.inr rfl) (by first | (with_reducible assumption) | (simp; done) | omega) 6).trans (show _ = some (.int .i64 n) by first | (with_reducible assumption) | go_simp))))
  refine wp_name (fun W2 eW2 => ?_)
  have HA2 := Lib.hid (show WrAt (fun j => Z j ∨ j = w.heap.size) b (l ++ [b8 kd]) W2 by rw [eW2]; exact wrAt_ext HA1 extA)
  have HK2 := Lib.hid (show Kept (fun j => Z j ∨ j = w.heap.size) w W2 by rw [eW2]; exact kept_trans (kept_trans (kept_ext extA) HK1) (kept_ext extA))
  have x0 : W2.cell? ⟨w.heap.size, 0, none⟩ = some (.int .i64 kd) := by rw [eW2]; go_simp
  have x1 : W2.cell? ⟨w.heap.size, 1, none⟩ = some (.slice a0 n0 c0) := by rw [eW2]; go_simp
  have x2 : W2.cell? ⟨w.heap.size, 2, none⟩ = some (.int .i64 rm.2) := by rw [eW2]; go_simp
  have x3 : W2.cell? ⟨w.heap.size, 3, none⟩ = some (.string ⟨tx.toArray⟩) := by rw [eW2]; go_simp
  have x4 : W2.cell? ⟨w.heap.size, 4, none⟩ = some (.slice a1 n1 c1) := by rw [eW2]; go_simp
  have x5 : W2.cell? ⟨w.heap.size, 5, none⟩ = some (.int .i64 m.2) := by rw [eW2]; go_simp
  have x6 : W2.cell? ⟨w.heap.size, 6, none⟩ = some (.int .i64 n) := by rw [eW2]; go_simp
  have z2 : w.heap.size < W2.heap.size := World.block_lt_of_cell? _ _ x0
  have hb2 : b < W2.heap.size := wrAt_lt HA2.out
  clear eW2 HA1 HK1 HW c1_0 c1_1 c1_2 c1_3 c1_4 c1_5 c1_6
  have HN2 := Lib.hid (show (l ++ [b8 kd]).length ≤ 800000 by rw [List.length_append]; have := HLN.out; simp only [List.length_cons, List.length_nil]; omega)
  by_cases hkd : kd = 2
  · obtain ⟨_, hm, ⟨n', hn1, hn2, hn3⟩, _, _, _⟩ := deed_take HCK.out (show ¬ kd = 1 by omega)
    simp only at hm hn1
    obtain ⟨hm1, hm2, hm3, _⟩ := stp_ok hm
    have hS : l ++ [b8 kd] ++ markB m ++ [b8 n] = l ++ deedB ⟨kd, (rm, tx), m, n⟩ := by unfold deedB; rw [if_pos hkd]; simp
    have HS := Lib.hid hS
    have HMK := Lib.hid (fun (W : World) (hx : Ext W2 W) => markW_any (m := m) (wrAt_ext HA2.out hx) (HZW.out W (Nat.lt_of_lt_of_le z2 hx.size)) (rmk_of' (HU.out W (kept_trans (HK2.out.less (fun _ h => Or.inl h)) (kept_ext hx))) HIM.out : RMk _ W [.slice a1 n1 c1, .int .i64 m.2] m) (fun j h => .inl h) (by omega) (by omega) (by omega) HN2.out)
    have HPM := Lib.hid (fun (W0 W : World) (v : Value) (ha : WrAt (fun j => Z j ∨ j = w.heap.size) b (l ++ [b8 kd] ++ markB m) W0) (hx : Ext W0 W) (hz : w.heap.size < W0.heap.size) (hv : RSl RInt 1 (fun j => W0.heap.size ≤ j) W v [n]) => put_new ha hx (HZW.out W0 hz) hv (show _ ≤ 900000 by rw [List.length_append, markB_len]; have := HN2.out; omega) (show 1 ≤ 1000 by omega))
    have t1 : (kd == 2) = true := by rw [hkd]; rfl
    clear hm hm1 hm2 hm3 hn1 hn2 hn3 hS hkd
    go_wp2_with (first | (go_at_call 49; go_must ((with_reducible refine (HMK.out _ extA).mono ?_); rintro e w3 ⟨rfl, HA3, hk3⟩; have HK3 := Lib.hid (show Kept (fun j => Z j ∨ j = w.heap.size) W2 w3 from kept_trans (kept_ext extA) hk3); clear hk3; have y0 := (HK3.out.cell (.inr rfl) (by first | (with_reducible assumption) | (simp; done) | omega) 0).trans (show _ = some (.int .i64 kd) by first | (with_reducible assumption) | go_simp); have y1 := (HK3.out.cell (.inr rfl) (by first | (with_reducible assumption) | (simp; done) | omega) 1).trans (show _ = some (.slice a0 n0 c0) by first | (with_reducible assumption) | go_simp); have y2 := (HK3.out.cell (.inr rfl) (by first | (with_reducible assumption) | (simp; done) | omega) 2).trans (show _ = some (.int .i64 rm.2) by first | (with_reducible assumption) | go_simp); have y3 := (HK3.out.cell (.inr rfl) (by first | (with_reducible assumption) | (simp; done) | omega) 3).trans (show _ = some (.string ⟨tx.toArray⟩) by first | (with_reducible assumption) | go_simp); have y4 := (HK3.out.cell (.inr rfl) (by first | (with_reducible assumption) | (simp; done) | omega) 4).trans (show _ = some (.slice a1 n1 c1) by first | (with_reducible assumption) | go_simp); have y5 := (HK3.out.cell (.inr rfl) (by first | (with_reducible assumption) | (simp; done) | omega) 5).trans (show _ = some (.int .i64 m.2) by first | (with_reducible assumption) | go_simp); have y6 := (HK3.out.cell (.inr rfl) (by first | (with_reducible assumption) | (simp; done) | omega) 6).trans (show _ = some (.int .i64 n) by first | (with_reducible assumption) | go_simp); have z3 : w.heap.size < w3.heap.size := World.block_lt_of_cell? _ _ y0)) | (go_at_call 22; go_must ((with_reducible refine (HPM.out w3 _ _ HA3 extA z3 (rd_int1 (by first | (with_reducible assumption) | go_simp) HIY.out (by first | omega | (simp <;> omega)) (by first | omega | (simp <;> omega)))).mono ?_); rintro e w4 ⟨rfl, HA4, HK4⟩; skip)))
    go_end0
    exact ⟨rfl, wrAt_z (by rw [← HS.out]; exact HA4) (fun j hj => Or.inl (Or.inl hj)), (kept_trans HK2.out (kept_trans HK3.out HK4)).less (fun _ h => Or.inl h)⟩
  · have hk1 : kd = 1 := by
      by_cases h : kd = 1
      · exact h
      · exact absurd (deed_take HCK.out h).1 hkd
    obtain ⟨hr, _, _⟩ := deed_put HCK.out hk1
    simp only at hr
    obtain ⟨hm, _, hl1, _, _⟩ := checkR_parts hr
    simp only at hm hl1
    obtain ⟨hm1, hm2, hm3, _⟩ := stp_ok hm
    have HS := Lib.hid (show l ++ [b8 kd] ++ markB rm ++ [b8 tx.length] ++ tx = l ++ deedB ⟨kd, (rm, tx), m, n⟩ by unfold deedB; rw [if_neg hkd]; simp)
    have HMK := Lib.hid (fun (W : World) (hx : Ext W2 W) => markW_any (m := rm) (wrAt_ext HA2.out hx) (HZW.out W (Nat.lt_of_lt_of_le z2 hx.size)) (rmk_of' (HV.out W (kept_trans (HK2.out.less (fun _ h => Or.inl h)) (kept_ext hx))) HIC.out : RMk _ W [.slice a0 n0 c0, .int .i64 rm.2] rm) (fun j h => .inl h) (by omega) (by omega) (by omega) HN2.out)
    have HPM := Lib.hid (fun (W0 W : World) (v : Value) (ha : WrAt (fun j => Z j ∨ j = w.heap.size) b (l ++ [b8 kd] ++ markB rm) W0) (hx : Ext W0 W) (hz : w.heap.size < W0.heap.size) (hv : RSl RInt 1 (fun j => W0.heap.size ≤ j) W v [(tx.length : Int)]) => put_new ha hx (HZW.out W0 hz) hv (show _ ≤ 900000 by rw [List.length_append, markB_len]; have := HN2.out; omega) (show 1 ≤ 1000 by omega))
    have HTL := Lib.hid (show I64 (tx.length : Int) from i64_small (by omega) (by omega))
    have HT6 := Lib.hid (show tx.length ≤ 1000000 by omega)
    have HN6 := Lib.hid (show (l ++ [b8 kd] ++ markB rm ++ [b8 tx.length]).length ≤ 1000000 by rw [List.length_append, List.length_append, markB_len]; have := HN2.out; simp only [List.length_cons, List.length_nil]; omega)
    have t1 : (kd == 2) = false := by rw [hk1]; rfl
    clear hm hm1 hm2 hm3 hl1 hr hkd hk1
    go_upto_region 7 with (first | (go_at_call 49; go_must ((with_reducible refine (HMK.out _ extA).mono ?_); rintro e w3 ⟨rfl, HA3, hk3⟩; have HK3 := Lib.hid (show Kept (fun j => Z j ∨ j = w.heap.size) W2 w3 from kept_trans (kept_ext extA) hk3); clear hk3; have y0 := (HK3.out.cell (.inr rfl) (by first | (with_reducible assumption) | (simp; done) | omega) 0).trans (show _ = some (.int .i64 kd) by first | (with_reducible assumption) | go_simp); have y1 := (HK3.out.cell (.inr rfl) (by first | (with_reducible assumption) | (simp; done) | omega) 1).trans (show _ = some (.slice a0 n0 c0) by first | (with_reducible assumption) | go_simp); have y2 := (HK3.out.cell (.inr rfl) (by first | (with_reducible assumption) | (simp; done) | omega) 2).trans (show _ = some (.int .i64 rm.2) by first | (with_reducible assumption) | go_simp); have y3 := (HK3.out.cell (.inr rfl) (by first | (with_reducible assumption) | (simp; done) | omega) 3).trans (show _ = some (.string ⟨tx.toArray⟩) by first | (with_reducible assumption) | go_simp); have y4 := (HK3.out.cell (.inr rfl) (by first | (with_reducible assumption) | (simp; done) | omega) 4).trans (show _ = some (.slice a1 n1 c1) by first | (with_reducible assumption) | go_simp); have y5 := (HK3.out.cell (.inr rfl) (by first | (with_reducible assumption) | (simp; done) | omega) 5).trans (show _ = some (.int .i64 m.2) by first | (with_reducible assumption) | go_simp); have y6 := (HK3.out.cell (.inr rfl) (by first | (with_reducible assumption) | (simp; done) | omega) 6).trans (show _ = some (.int .i64 n) by first | (with_reducible assumption) | go_simp); have z3 : w.heap.size < w3.heap.size := World.block_lt_of_cell? _ _ y0)) | (go_at_call 22; go_must ((with_reducible refine (HPM.out w3 _ _ HA3 extA z3 (rd_int1 (by first | (with_reducible assumption) | go_simp) HTL.out (by first | omega | (simp <;> omega)) (by first | omega | (simp <;> omega)))).mono ?_); rintro e w4 ⟨rfl, HA4, HK4⟩; have q43 := (HK4.cell (.inr rfl) z3 3).trans y3)))
    refine wp_name (fun W6 eW6 => ?_)
    have HA6 := Lib.hid (show WrAt (fun j => Z j ∨ j = w.heap.size) b (l ++ [b8 kd] ++ markB rm ++ [b8 tx.length]) W6 by rw [eW6]; exact wrAt_ext HA4 extA)
    have HK6 := Lib.hid (show Kept (fun j => Z j ∨ j = w.heap.size) w W6 by rw [eW6]; exact kept_trans HK2.out (kept_trans HK3.out (kept_trans HK4 (kept_ext extA))))
    have HT := Lib.hid (fun (h : w.heap.size < W2.heap.size) => (HK3.out.cell (.inr rfl) h 3))
    have q3 : W6.cell? ⟨w.heap.size, 3, none⟩ = some (.string ⟨tx.toArray⟩) := by rw [eW6]; go_simp
    clear eW6 HA4 HK4 HK3 HA3 y0 y1 y2 y3 y4 y5 y6
    obtain ⟨u6, hu6⟩ := HA6.out
    obtain ⟨a3, n3, c3, rfl⟩ := osl_slice hu6.2.2.1
    obtain rfl := (osl_len hu6.2.2.1).1
    have hc6 := hu6.1
    have hf6 := hu6.2.1
    have HO := Lib.hid hu6.2.2.1
    have HU6 := Lib.hid hu6
    have z6 : w.heap.size < W6.heap.size := World.block_lt_of_cell? _ _ q3
    have hb6 : b < W6.heap.size := wr_lt hu6
    have HZ6 := Lib.hid (HZW.out W6 z6)
    obtain ⟨i0, hi0, hz0, hz1', hz2⟩ := info_parts info_u8
    have HJ := Lib.hid hi0
    have HZ0 := Lib.hid hz0
    have HZ1 := Lib.hid hz1'
    have HZ2 := Lib.hid hz2
    clear hu6 hi0 hz0 hz1' hz2 x0 x1 x2 x3 x4 x5 x6
    generalize l ++ [b8 kd] ++ markB rm ++ [b8 tx.length] = fl at *
    go_region_law (first | (refine step_appStr rfl (.tmp 37) (.tmp 40) 49 9 rfl 5 i0 Try.underlying49 Try.underlying9 HJ.out HZ0.out HZ1.out HZ2.out (F := fun _ => True) (.slice a3 fl.length c3) fl tx rfl (osl_ext gBy HO.out extA) rfl (by_len HN6.out HT6.out) (by_byt HN6.out HT6.out) ?_; intro v9 w9 hown9 hg9 hat9; obtain ⟨a9, n9, c9, rfl⟩ := osl_slice hown9; obtain ⟨hc9, hf9⟩ := wr_cell HU6.out hg9 extA; have HS9 := Lib.hid (wr_store HU6.out HZ6.out hg9 extA hat9 hown9); clear hg9 hat9 hown9))
    all_goals (go_wp2_with fail; go_end0)
    all_goals exact ⟨rfl, wrAt_z (by rw [← HS.out]; exact HS9.out.1) (fun j hj => Or.inl (Or.inl hj)), (kept_trans HK6.out HS9.out.2).less (fun _ h => Or.inl h)⟩
end Go.Proofs.Ytiladkinndgeaaa
