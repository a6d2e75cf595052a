/- A strings.Builder of one's own: a byte more; its string. -/
import Derived.Test.YtghfmgndddjofaaA0
import Derived.Shelf.Strings.BuilderK
set_option linter.unusedVariables false
set_option linter.unusedSimpArgs false
namespace Go.Proofs.Ytghfmgndddjofaa
open Go Go.RowKit Go.BigFrame Go.Shelf Cp

theorem bl_size : (Try.prog.info? 148).map (·.size) = some 2 := by kernel_rfl
theorem bl_lies : liesAt Try.prog Try.prog.depth 148 (2 / Try.prog.cellsOf 148) 0 148 1 = true := by kernel_rfl
theorem bl_byte : (Try.prog.info? 5).map (fun i => (i.zero, i.size, i.bytes)) = some (some (.int .u8 0), 1, 1) := by kernel_rfl
def blRen : Go.Shelf.Ren := ⟨fun | 169 => 118 | n => n, fun | 70 => 146 | 9 => 9 | 0 => 0 | 72 => 148 | 37 => 92 | 127 => 168 | 3 => 3 | 5 => 5 | n => n, fun | n => n⟩
theorem blLays : Go.Proofs.Lays.n169 Try.prog blRen := {
  mixed := by kernel_rfl
  f169 := Try.func118.trans (congrArg some (by kernel_rfl))
  t0 := Try.underlying0
  a0 := Try.isAgg0
  z0 := Try.sizeOf0
  v0 := Try.zeroValue0
  t3 := Try.underlying3
  a3 := Try.isAgg3
  z3 := Try.sizeOf3
  v3 := Try.zeroValue3
  t9 := Try.underlying9
  a9 := Try.isAgg9
  z9 := Try.sizeOf9
  v9 := Try.zeroValue9
  t37 := Try.underlying92
  a37 := Try.isAgg92
  z37 := Try.sizeOf92
  v37 := Try.zeroValue92
  t70 := Try.underlying146
  a70 := Try.isAgg146
  z70 := Try.sizeOf146
  v70 := Try.zeroValue146
  t72 := Try.underlying148
  a72 := Try.isAgg148
  z72 := Try.sizeOf148
  v72 := Try.zeroValue148
  t127 := Try.underlying168
  a127 := Try.isAgg168
  z127 := Try.sizeOf168
  v127 := Try.zeroValue168 }
theorem blExtra : Builder.Extra Try.prog blRen := {
  sizeBuilder := by kernel_rfl
  liesBuilder := by kernel_rfl
  t5 := Try.underlying5
  a5 := Try.isAgg5
  z5 := Try.sizeOf5
  v5 := Try.zeroValue5
  infoByte := by kernel_rfl
  cellsByte := by kernel_rfl
  sizeByte := by kernel_rfl
  neB5 := by decide }
/-- a builder in block b, all of it made since B; it holds the bytes l -/
def Bld (B b : Nat) (l : List UInt8) (w : World) : Prop := Go.Lib.IsBuilderF 148 5 B b (Go.Lib.byteCells l) w
theorem bld_string (B b : Nat) (l : List UInt8) (w : World) (h : Bld B b l w) (hB : B ≤ w.heap.size) :
    Calls Try.prog 118 #[.pointer (some ⟨b, 0, none⟩)] w fun e w' => e = .returned (.string ⟨l.toArray⟩) ∧ Below B w w' :=
  (Any.Builder_String_any_k blLays blExtra B b l w h hB).mono fun _ _ ⟨h1, _, h2, _⟩ => ⟨h1, h2⟩
set_option maxRecDepth 100000 in
set_option maxHeartbeats 4000000 in
theorem copy_used (b : Nat) (w : World) (h0 : w.cell? ⟨b, 0, none⟩ = some (.pointer (some ⟨b, 0, none⟩))) :
    Calls Try.prog 137 #[.pointer (some ⟨b, 0, none⟩)] w fun e w' => e = .returned (.tuple #[]) ∧ w' = w := by
  obtain ⟨j, hj, _⟩ := Option.map_eq_some_iff.1 bl_size
  go_enter Try.func137, Try.ntmps137
  go_wp2
  rw [Go.Lib.run_neq_ptr_same w _ Try.underlying146 hj]
  go_wp2
  go_end0
  exact ⟨rfl, rfl⟩
set_option maxRecDepth 100000 in
set_option maxHeartbeats 4000000 in
theorem copy_new (b : Nat) (w : World) (h0 : w.cell? ⟨b, 0, none⟩ = some (.pointer none)) (hsh : w.shape? b = some (148, 2)) (hfz : w.frozen? ⟨b, 0, none⟩ = false) :
    Calls Try.prog 137 #[.pointer (some ⟨b, 0, none⟩)] w fun e w' => e = .returned (.tuple #[]) ∧ w' = w.setCell ⟨b, 0, none⟩ (.pointer (some ⟨b, 0, none⟩)) := by
  obtain ⟨j, hj, hjs⟩ := Option.map_eq_some_iff.1 bl_size
  go_enter Try.func137, Try.ntmps137
  go_wp2
  rw [Go.Lib.run_to_unsafe w ⟨b, 0, none⟩ Try.underlying146 Try.underlying174 hj (by rw [hjs]; decide) hsh (Nat.zero_lt_succ 1)]
  simp only [Result.andThen]
  rw [Oper.upon_value]
  go_wp2
  rw [run_callFunc_extern Try.func145 (by kernel_rfl) (by kernel_rfl) (by kernel_rfl) (e := Extern.AbiNoEscape.same) (by kernel_rfl)]
  rw [Go.Lib.run_noEscape]
  simp only [Result.andThen]
  rw [Oper.upon_value]
  go_wp2
  rw [Go.Lib.run_from_unsafe w ⟨b, 0, none⟩ Try.underlying174 Try.underlying146 hj hsh bl_lies]
  simp only [Result.andThen]
  rw [Oper.upon_value]
  go_wp2
  go_end0
  exact ⟨rfl, rfl⟩
theorem bld_copy (B b : Nat) (l : List UInt8) (w : World) (h : Bld B b l w) :
    Calls Try.prog 137 #[.pointer (some ⟨b, 0, none⟩)] w fun e w' => e = .returned (.tuple #[]) ∧ Go.Lib.BuilderAtF 148 5 B b (.pointer (some ⟨b, 0, none⟩)) (Go.Lib.byteCells l) w' ∧ Below B w w' := by
  rcases h with h | h
  · refine (copy_new b w h.cell0 h.shape h.frozen0).mono ?_
    rintro e w' ⟨rfl, rfl⟩
    exact ⟨rfl, h.used _, (Below.refl B w).setCell (p := ⟨b, 0, none⟩) h.1 _⟩
  · refine (copy_used b w h.cell0).mono ?_
    rintro e w' ⟨rfl, rfl⟩
    exact ⟨rfl, h, Below.refl B _⟩
theorem bcells_one (s : UInt8) : Go.Lib.byteCells [s] = [.int .u8 s.toNat] := rfl
set_option maxRecDepth 100000 in
set_option maxHeartbeats 4000000 in
theorem bld_byte (B b : Nat) (l : List UInt8) (s : UInt8) (w : World) (h : Bld B b l w) (hl : l.length ≤ 1000) (hBw : B ≤ w.heap.size) :
    Calls Try.prog 117 #[.pointer (some ⟨b, 0, none⟩), .int .u8 s.toNat] w fun e w' => e = .returned .nilIface ∧ Bld B b (l ++ [s]) w' ∧ Below B w w' := by
  obtain ⟨i0, hi, hz0, hz1, hz2⟩ := info_parts bl_byte
  have HJ := Lib.hid hi
  have HZ0 := Lib.hid hz0
  have HZ1 := Lib.hid hz1
  have HZ2 := Lib.hid hz2
  have HC := Lib.hid (bld_copy B b l w h)
  clear h hi hz0 hz1 hz2
  go_enter Try.func117, Try.ntmps117
  go_wp2_with (go_at_call 137; refine HC.out.mono ?_)
  rintro e w1 ⟨rfl, h1, hb1⟩
  obtain ⟨hB, v, hbk, hown, hne⟩ := h1
  have c0 : w1.cell? ⟨b, 0, none⟩ = some (.pointer (some ⟨b, 0, none⟩)) := by rw [Go.Lib.cell_of_heap hbk]; rfl
  have c1 : w1.cell? ⟨b, 1, none⟩ = some v := by rw [Go.Lib.cell_of_heap hbk]; rfl
  have hz1s := hb1.size
  have HOW := Lib.hid hown
  have HBK := Lib.hid hbk
  have HNE := Lib.hid hne
  have HLL := Lib.hid hl
  clear hown hbk hne hl
  go_wp2_with (at_builtin; refine wpList_append_ownF _ rfl _ _ 92 rfl B 5 i0 (.int .u8 0) 1 1 Try.underlying92 HJ.out HZ0.out HZ1.out HZ2.out rfl (by decide) _ _ _ rfl (HOW.out.alloc _) ⟨w1.heap.size, 0, none⟩ 1 1 [.int .u8 s.toNat] rfl rfl ?c1 ?c2 ?c3 ?c4 ?c5 ?_)
  case c1 =>
    intro j u hj
    match j, hj with
    | 0, hj => simp at hj; subst hj; simp [Addr.add]
  case c2 => intro u hu; simp at hu; subst hu; rfl
  case c3 => have := HLL.out; unfold maxLen; rw [Go.Lib.byteCells_length]; omega
  case c4 => have := HLL.out; rw [Go.Lib.byteCells_length]; omega
  case c5 => simp; omega
  intro v' w2 hown' hgrow _
  have hlt : b < w1.heap.size := by
    rcases Nat.lt_or_ge b w1.heap.size with h' | h'
    · exact h'
    · have := HBK.out; simp [Array.getElem?_eq_none h'] at this
  have hb2 : w2.heap[b]? = some (.cells #[.pointer (some ⟨b, 0, none⟩), v] 148 (0, 0)) := by
    rw [hgrow.block b (by simp; omega) (fun e => HNE.out e.symm), Go.Lib.alloc_old w1 _ b hlt]
    exact HBK.out
  have d0 : w2.cell? ⟨b, 0, none⟩ = some (.pointer (some ⟨b, 0, none⟩)) := by rw [Go.Lib.cell_of_heap hb2]; rfl
  have d1 : w2.cell? ⟨b, 1, none⟩ = some v := by rw [Go.Lib.cell_of_heap hb2]; rfl
  have f1 : w2.frozen? ⟨b, 1, none⟩ = false := Go.Lib.frozen_of_heap hb2 1
  have hlen' : (Go.Lib.byteCells l).length + 1 = (Go.Lib.byteCells (l ++ [s])).length := by simp [Go.Lib.byteCells_length]
  rw [show Go.Lib.byteCells l ++ [Value.int .u8 s.toNat] = Go.Lib.byteCells (l ++ [s]) from (Go.Lib.byteCells_append l [s]).symm] at hown'
  obtain ⟨g, n9, cap, rfl⟩ : ∃ g n cap, v' = .slice g n cap := by
    rcases hown'.2 with ⟨h, h0⟩ | ⟨g, cap, cur, fz, hv, _⟩
    · exact ⟨_, _, _, h⟩
    · exact ⟨_, _, _, hv⟩
  go_wp2
  go_ret
  refine ⟨rfl, .inr ?_, ?_⟩
  · exact Go.Lib.BuilderAtF.put (T := 148) (e := 5) hB hb2 (bs' := Go.Lib.byteCells (l ++ [s])) (by rw [← hlen']; exact hown') (by decide)
  · exact ((hb1.alloc (by have := hb1.size; omega) _).grown hgrow (by have := hb1.size; simp; omega) (fun k hk => (HOW.out.lt k hk).1)).setCell (p := ⟨b, 1, none⟩) hB _
end Go.Proofs.Ytghfmgndddjofaa
