/- Bytes that are read: so many, a number of one or two. -/
import Derived.Test.YtiladkinndgeaaaQa28958c9c8
import Derived.Test.YtiladkinndgeaaaQ3d8d5b10c6
import Derived.Test.YtiladkinndgeaaaQ88da264e40
set_option linter.unusedVariables false
set_option linter.unusedSimpArgs false
namespace Go.Proofs.Ytiladkinndgeaaa
open Go Go.RowKit Go.BigFrame Cp

/-- a reader in its box: what is left, and whether there was too little -/
def RdAt (b : Nat) (r : PS) (w : World) : Prop := (∃ s : ByteArray, w.cell? ⟨b, 0, none⟩ = some (.string s) ∧ s.data.toList = r.1) ∧ w.cell? ⟨b, 1, none⟩ = some (.bool r.2) ∧ w.frozen? ⟨b, 0, none⟩ = false ∧ w.frozen? ⟨b, 1, none⟩ = false ∧ r.1.length ≤ 140737488351232
theorem rdAt_lt {b : Nat} {r : PS} {w : World} (h : RdAt b r w) : b < w.heap.size := World.block_lt_of_cell? _ _ h.2.1
theorem rdAt_ext {b : Nat} {r : PS} {w w' : World} (h : RdAt b r w) (hx : Ext w w') : RdAt b r w' := by
  have hb := rdAt_lt h
  obtain ⟨⟨s, h1, h2⟩, h3, h4, h5, h6⟩ := h
  exact ⟨⟨s, (hx.cells _ _ hb).trans h1, h2⟩, (hx.cells _ _ hb).trans h3, (hx.frz _ _ hb).trans h4, (hx.frz _ _ hb).trans h5, h6⟩
abbrev But (b : Nat) : Nat → Prop := fun k => k ≠ b
theorem size_list (s : ByteArray) : s.size = s.data.toList.length := (Array.length_toList (xs := s.data)).symm
theorem ex_takeR (s : ByteArray) (n : Nat) : (s.extract 0 n).data.toList = s.data.toList.take n := by
  simp [ByteArray.data_extract, List.extract_eq_take_drop]
theorem ex_dropR (s : ByteArray) (n : Nat) : (s.extract n s.size).data.toList = s.data.toList.drop n := by
  simp [ByteArray.data_extract, List.extract_eq_take_drop]
  exact List.take_of_length_le (by rw [List.length_drop, size_list]; exact Nat.le_refl _)
/-- bytes that are handed back, and what is left of the reader -/
def IsTake (b : Nat) (x : Tx × PS) (w : World) (e : Ending) (w' : World) : Prop := ∃ s : ByteArray, e = .returned (.string s) ∧ s.data.toList = x.1 ∧ RdAt b x.2 w' ∧ Kept (But b) w w'
set_option maxRecDepth 100000 in
set_option maxHeartbeats 4000000 in
theorem takeR_any {w : World} {b : Nat} {r : PS} {n : Nat} (h : RdAt b r w) (hn : n ≤ 1000000) :
    Calls Try.prog 50 #[.pointer (some ⟨b, 0, none⟩), .int .i64 n] w (IsTake b (takeP n r) w) := by
  have hb := rdAt_lt h
  obtain ⟨⟨s, h1, h2⟩, h3, h4, h5, h6⟩ := h
  obtain ⟨t, sh⟩ := r
  simp only at h2 h3 h6 ⊢
  subst h2
  have hsl : s.size ≤ 140737488351232 := by rw [size_list]; exact h6
  have HT := Lib.hid (ex_takeR s n)
  have HD := Lib.hid (ex_dropR s n)
  have HL := Lib.hid (size_list s)
  have H6 := Lib.hid h6
  clear h6
  by_cases hl : s.size < n
  · have HS := Lib.hid (show takeP (n : Int) (s.data.toList, sh) = ([], ([], true)) by unfold takeP; rw [if_pos (by simp only [← HL.out]; omega)])
    have t1 : decide ((s.size : Int) < (n : Int)) = true := decide_eq_true (by omega)
    go_enter Try.func50, Try.ntmps50
    go_wp2_with fail
    go_ret
    refine ⟨⟨#[]⟩, rfl, by rw [HS.out], ?_, kept_set (kept_set kept_refl (fun h => h rfl) _) (fun h => h rfl) _⟩
    rw [HS.out]
    exact ⟨⟨⟨#[]⟩, by go_simp, rfl⟩, by go_simp, by go_simp, by go_simp, Nat.zero_le _⟩
  · have HS := Lib.hid (show takeP (n : Int) (s.data.toList, sh) = (s.data.toList.take n, (s.data.toList.drop n, sh)) by unfold takeP; rw [if_neg (by simp only [← HL.out]; omega), Int.toNat_natCast])
    have t1 : decide ((s.size : Int) < (n : Int)) = false := decide_eq_false (by omega)
    have t2 : n ≤ s.size := by omega
    clear hl
    go_enter Try.func50, Try.ntmps50
    go_wp2_with fail
    go_ret
    refine ⟨_, rfl, by rw [HS.out]; exact HT.out, ?_, kept_set kept_refl (fun h => h rfl) _⟩
    rw [HS.out]
    exact ⟨⟨_, by go_simp, HD.out⟩, by go_simp, by go_simp, by go_simp, Nat.le_trans (by rw [List.length_drop]; omega) H6.out⟩
end Go.Proofs.Ytiladkinndgeaaa
