/- The text of atoms, by the program. -/
import Derived.Test.YtghfmgndddjofaaSH
import Derived.Test.YtghfmgndddjofaaCT
import Derived.Test.YtghfmgndddjofaaPM
import Derived.Test.YtghfmgndddjofaaA2
set_option linter.unusedVariables false
set_option linter.unusedSimpArgs false
namespace Go.Proofs.Ytghfmgndddjofaa
open Go Go.RowKit Go.BigFrame Cp

theorem ext_below {a b c : World} {B : Nat} (h : Ext a b) (k : Below B b c) (hB : a.heap.size ≤ B) : Ext a c := Below.trans h (Below.mono k hB)
theorem bld_alloc {B b : Nat} {l : List UInt8} {w : World} (h : Bld B b l w) (o : Obj) : Bld B b l (w.alloc o) := by
  rcases h with h | h
  · exact .inl (h.alloc o)
  · exact .inr (h.alloc o)
theorem bld_drew {B b : Nat} {l : List UInt8} {w : World} (h : Bld B b l w) : Bld B b l w.drew := h
theorem bld_new (w : World) : Bld w.heap.size w.heap.size [] (w.alloc (.cells #[.pointer none, .slice none 0 0] 148)) := Go.Lib.IsBuilderF.of (Go.Lib.fresh_isBuilder _ _ w)
theorem textA_len (l : List At) (k : Nat) : (textA (l.take k)).length ≤ k := by unfold textA; rw [List.length_map, List.length_take]; omega
set_option maxRecDepth 100000 in
set_option maxHeartbeats 4000000 in
theorem signsA_any {F : Nat → Prop} {w : World} {v : Value} {l : List At} (h : RSl RAt 3 F w v l) (hl3 : l.length ≤ 300) :
    Calls Try.prog 81 #[v] w fun e w' => e = .returned (.string ⟨(textA l).toArray⟩) ∧ Ext w w' := by
  have HL := Lib.hid (fun (W : World) (hx : Ext w W) => h.ext gAt hx)
  obtain ⟨a0, n0, c0, rfl⟩ := h.slice
  obtain rfl : n0 = l.length := h.len.1
  clear h
  go_enter Try.func81, Try.ntmps81
  go_wp2
  go_loopw [8] (fun iv wr => ∃ k : Nat, k ≤ l.length ∧ iv = .int .i64 k ∧ Hid (Bld w.heap.size w.heap.size (textA (l.take k)) wr) ∧ Hid (w.heap.size < wr.heap.size) ∧ Ext w wr) (fun iv _ => l.length - (intOf iv).toNat)
  case atStart => exact ⟨0, Nat.zero_le _, rfl, Lib.hid (bld_new w), Lib.hid (by simp), (by repeat (first | (with_reducible exact ext_refl _) | (with_reducible assumption) | (with_reducible refine ext_drew ?_) | (with_reducible refine ext_drewN ?_ _) | (with_reducible refine ext_alloc ?_ _) | (with_reducible refine ext_set ?_ (by first | omega | (simp <;> omega)) _) | (with_reducible refine ext_trans ?_ (by with_reducible assumption))))⟩
  case round =>
    obtain ⟨k, hk, rfl, HB, HS, hx⟩ := hrel
    have HX := Lib.hid hx
    clear hx
    have hsz := HS.out
    by_cases hlt : k < l.length
    · obtain ⟨b, o, p, d, s, ap, cp, rfl, hb, ek, ick, hpp, y0, y1, y2⟩ := atm_at (HL.out wr HX.out) hlt
      have HEK := Lib.hid (textA_step ek)
      have HTL := Lib.hid (textA_len l k)
      have hnb : ¬ b = wr.heap.size := by omega
      clear ek ick hpp
      generalize textA (l.take k) = t at *
      go_wp2_with (go_at_call 117; go_must ((with_reducible refine (bld_byte w.heap.size w.heap.size t s _ (bld_alloc HB.out _) (by have := HTL.out; omega) (by first | omega | (simp <;> omega))).mono ?_); rintro e w1 ⟨rfl, hv1, hb1⟩))
      go_roundw
      case rel => exact ⟨k + 1, by omega, by go_num, Lib.hid (by rw [HEK.out]; exact hv1), Lib.hid (by have := hb1.size; simp at this; omega), ext_below (ext_trans HX.out (by repeat (first | (with_reducible exact ext_refl _) | (with_reducible assumption) | (with_reducible refine ext_drew ?_) | (with_reducible refine ext_drewN ?_ _) | (with_reducible refine ext_alloc ?_ _) | (with_reducible refine ext_set ?_ (by first | omega | (simp <;> omega)) _) | (with_reducible refine ext_trans ?_ (by with_reducible assumption))))) hb1 (Nat.le_refl _)⟩
      case measure => simp [intOf]; omega
    · have hkl : k = l.length := by omega
      subst hkl
      have HF := Lib.hid (show Bld w.heap.size w.heap.size (textA l) wr by have := HB.out; rwa [List.take_of_length_le (Nat.le_refl _)] at this)
      clear HB
      go_wp2_with (go_at_call 118; go_must ((with_reducible refine (bld_string w.heap.size w.heap.size (textA l) _ HF.out (by first | omega | (simp <;> omega))).mono ?_); rintro e w1 ⟨rfl, hb1⟩))
      go_ret
      exact ⟨rfl, ext_below (ext_trans HX.out (by repeat (first | (with_reducible exact ext_refl _) | (with_reducible assumption) | (with_reducible refine ext_drew ?_) | (with_reducible refine ext_drewN ?_ _) | (with_reducible refine ext_alloc ?_ _) | (with_reducible refine ext_set ?_ (by first | omega | (simp <;> omega)) _) | (with_reducible refine ext_trans ?_ (by with_reducible assumption))))) hb1 (Nat.le_refl _)⟩
def textE (l : List At) : List UInt8 × Int := if checkA l ≠ 0 then ([], checkA l) else (textA l, 0)
set_option maxRecDepth 100000 in
set_option maxHeartbeats 4000000 in
theorem text_any {F : Nat → Prop} {w : World} {v : Value} {l : List At} (h : RSl RAt 3 F w v l) :
    Calls Try.prog 37 #[v] w fun e w' => e = .returned (.tuple #[.string ⟨(textE l).1.toArray⟩, .int .i64 (textE l).2]) ∧ Ext w w' := by
  have HC := Lib.hid (fun (W : World) (hx : Ext w W) => checkAtomsP_any (h.ext gAt hx))
  have HS := Lib.hid (fun (hl : l.length ≤ 300) (W : World) (hx : Ext w W) => signsA_any (h.ext gAt hx) hl)
  obtain ⟨a0, n0, c0, rfl⟩ := h.slice
  clear h
  by_cases h0 : checkA l = 0
  · have HE : textE l = (textA l, 0) := by unfold textE; rw [if_neg (by omega)]
    have HSS := Lib.hid (HS.out (checkA_ok h0).1)
    rw [HE]
    rw [h0] at HC
    clear HE h0 HS
    go_enter Try.func37, Try.ntmps37
    go_wp2_with (first
      | (go_at_call 45; go_must ((with_reducible refine (HC.out _ (by repeat (first | (with_reducible exact ext_refl _) | (with_reducible assumption) | (with_reducible refine ext_drew ?_) | (with_reducible refine ext_drewN ?_ _) | (with_reducible refine ext_alloc ?_ _) | (with_reducible refine ext_set ?_ (by first | omega | (simp <;> omega)) _) | (with_reducible refine ext_trans ?_ (by with_reducible assumption))))).mono ?_); rintro e w1 ⟨rfl, hx1⟩; skip))
      | (go_at_call 81; go_must ((with_reducible refine (HSS.out _ (by repeat (first | (with_reducible exact ext_refl _) | (with_reducible assumption) | (with_reducible refine ext_drew ?_) | (with_reducible refine ext_drewN ?_ _) | (with_reducible refine ext_alloc ?_ _) | (with_reducible refine ext_set ?_ (by first | omega | (simp <;> omega)) _) | (with_reducible refine ext_trans ?_ (by with_reducible assumption))))).mono ?_); rintro e w2 ⟨rfl, hx2⟩; skip)))
    refine bodyPost_ret (v := .tuple #[.string ⟨(textA l).toArray⟩, .int .i64 0]) (by simp [results, Try.results37, go_sem]) rfl ⟨rfl, (by repeat (first | (with_reducible exact ext_refl _) | (with_reducible assumption) | (with_reducible refine ext_drew ?_) | (with_reducible refine ext_drewN ?_ _) | (with_reducible refine ext_alloc ?_ _) | (with_reducible refine ext_set ?_ (by first | omega | (simp <;> omega)) _) | (with_reducible refine ext_trans ?_ (by with_reducible assumption))))⟩
  · have HE : textE l = ([], checkA l) := by unfold textE; rw [if_pos h0]
    have t1 : (checkA l != 0) = true := by simpa using h0
    rw [HE]
    generalize checkA l = er at *
    clear HE h0 HS
    go_enter Try.func37, Try.ntmps37
    go_wp2_with (go_at_call 45; go_must ((with_reducible refine (HC.out _ (by repeat (first | (with_reducible exact ext_refl _) | (with_reducible assumption) | (with_reducible refine ext_drew ?_) | (with_reducible refine ext_drewN ?_ _) | (with_reducible refine ext_alloc ?_ _) | (with_reducible refine ext_set ?_ (by first | omega | (simp <;> omega)) _) | (with_reducible refine ext_trans ?_ (by with_reducible assumption))))).mono ?_); rintro e w1 ⟨rfl, hx1⟩; skip))
    refine bodyPost_ret (v := .tuple #[.string ⟨#[]⟩, .int .i64 er]) (by simp [results, Try.results37, go_sem]) rfl ⟨rfl, (by repeat (first | (with_reducible exact ext_refl _) | (with_reducible assumption) | (with_reducible refine ext_drew ?_) | (with_reducible refine ext_drewN ?_ _) | (with_reducible refine ext_alloc ?_ _) | (with_reducible refine ext_set ?_ (by first | omega | (simp <;> omega)) _) | (with_reducible refine ext_trans ?_ (by with_reducible assumption))))⟩
end Go.Proofs.Ytghfmgndddjofaa
