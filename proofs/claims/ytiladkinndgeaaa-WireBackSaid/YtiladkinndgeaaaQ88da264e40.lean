/- A note of one's own: nothing of it is shared. -/
import Derived.Test.YtiladkinndgeaaaQ0fa89b068c
import Derived.Test.YtiladkinndgeaaaQ21d56623e5
import Derived.Test.YtiladkinndgeaaaQ6465d16c97
import Derived.Test.YtiladkinndgeaaaQ93f6ba8a8c
import Derived.Deep.RegionLaw
import Derived.Deep.Cut
import Derived.Deep.CutRange
import Derived.Test.YtiladkinndgeaaaQa28958c9c8
import Derived.Test.YtiladkinndgeaaaQ9649f021f5
set_option linter.unusedVariables false
set_option linter.unusedSimpArgs false
namespace Go.Proofs.Ytiladkinndgeaaa
open Go Go.RowKit Go.BigFrame Cp

theorem info_deG : (Try.prog.info? 60).map (fun i => (i.zero, i.size, i.bytes)) = some (some (.agg #[.int .i64 0, .slice none 0 0, .int .i64 0, .string ⟨#[]⟩, .slice none 0 0, .int .i64 0, .int .i64 0]), 7, 96) := by kernel_rfl
theorem one_deG : ∀ F w cs (y : De), RDe F w cs y → ∀ u ∈ cs, u.oneCell' = true := by
  rintro F w cs y ⟨v, s, u, rfl, _, h1, _, h3, h4, _, _⟩ x hx
  obtain ⟨a1, n1, c1, rfl⟩ := h1.slice
  obtain ⟨a2, n2, c2, rfl⟩ := h4.slice
  obtain ⟨rfl, _⟩ := h3
  simp at hx
  rcases hx with rfl | rfl | rfl | rfl | rfl | rfl | rfl <;> rfl
theorem deG_len {a : Nat} (h : a ≤ 1000) : a + 1 ≤ maxLen := Nat.le_trans (by omega : a + 1 ≤ 1001) (by unfold maxLen; decide)
theorem deG_byt {a : Nat} (h : a ≤ 1000) : (a + 1) * 96 ≤ 140737488355328 := by omega
theorem rangeAt7G {w : World} {b : Nat} {x0 x1 x2 x3 x4 x5 x6 : Value} (h0 : w.cell? ⟨b, 0, none⟩ = some x0) (h1 : w.cell? ⟨b, 1, none⟩ = some x1) (h2 : w.cell? ⟨b, 2, none⟩ = some x2) (h3 : w.cell? ⟨b, 3, none⟩ = some x3)
    (h4 : w.cell? ⟨b, 4, none⟩ = some x4) (h5 : w.cell? ⟨b, 5, none⟩ = some x5) (h6 : w.cell? ⟨b, 6, none⟩ = some x6) : w.rangeAt b 0 [x0, x1, x2, x3, x4, x5, x6] := by
  intro j v hv
  match j, hv with
  | 0, hv => injection hv with hv; subst hv; exact h0
  | 1, hv => injection hv with hv; subst hv; exact h1
  | 2, hv => injection hv with hv; subst hv; exact h2
  | 3, hv => injection hv with hv; subst hv; exact h3
  | 4, hv => injection hv with hv; subst hv; exact h4
  | 5, hv => injection hv with hv; subst hv; exact h5
  | 6, hv => injection hv with hv; subst hv; exact h6
  | j + 7, hv => simp at hv
theorem take_snocG {α : Type} {l : List α} {k : Nat} {a : α} (h : l[k]? = some a) : l.take (k + 1) = l.take k ++ [a] := by
  obtain ⟨h1, h2⟩ := List.getElem?_eq_some_iff.1 h
  rw [List.take_succ_eq_append_getElem h1, h2]
end Go.Proofs.Ytiladkinndgeaaa
/- Notes as they lie; notes of one's own. -/
namespace Go.Proofs.Ytiladkinndgeaaa
open Go Go.RowKit Go.BigFrame Cp

end Go.Proofs.Ytiladkinndgeaaa
/- The same notes, of equal ones. -/
namespace Go.Proofs.Ytiladkinndgeaaa
open Go Go.RowKit Go.BigFrame Cp

set_option maxRecDepth 100000 in
set_option maxHeartbeats 4000000 in
theorem sameNote_any {F G : Nat → Prop} {w : World} {cs ds : List Value} {n : No} (h : RNo F w cs n) (k : RNo G w ds n) :
    Calls Try.prog 14 #[.agg cs.toArray, .agg ds.toArray] w fun e w' => e = .returned (.bool true) ∧ Ext w w' := by
  obtain ⟨v, u, rfl, i1, i2, h1, h2⟩ := h
  obtain ⟨v', u', rfl, _, _, k1, k2⟩ := k
  obtain ⟨st, nu, l, q⟩ := n
  simp only at h1 h2 k1 k2 ⊢
  have HSI := Lib.hid (fun (W : World) (hx : Ext w W) => sameInts_any (h1.ext gInt hx) (k1.ext gInt hx))
  have HSD := Lib.hid (fun (W : World) (hx : Ext w W) => sameDeeds_any (h2.ext gDe hx) (k2.ext gDe hx))
  obtain ⟨a1, n1, c1, rfl⟩ := h1.slice
  obtain ⟨a2, n2, c2, rfl⟩ := h2.slice
  obtain ⟨a3, n3, c3, rfl⟩ := k1.slice
  obtain ⟨a4, n4, c4, rfl⟩ := k2.slice
  clear h1 h2 k1 k2 i1 i2
  go_enter Try.func14, Try.ntmps14
  go_wp2_with (first | (go_at_call 44; go_must ((with_reducible refine (HSI.out _ extA).mono ?_); rintro e w2 ⟨rfl, hx2⟩; have hz2 := hx2.size; (try simp at hz2); have x3 := (hx2.cells (w.heap.size) 3 (by first | omega | (simp <;> omega))).trans (show _ = some (.slice a2 n2 c2) by first | (with_reducible assumption) | go_simp); have x7 := (hx2.cells (w.heap.size + 1) 3 (by first | omega | (simp <;> omega))).trans (show _ = some (.slice a4 n4 c4) by first | (with_reducible assumption) | go_simp); have HX2 := Lib.hid (show Ext w w2 from ext_trans extA hx2))) | (go_at_call 45; go_must ((with_reducible refine (HSD.out _ (ext_trans HX2.out extA)).mono ?_); rintro e w3 ⟨rfl, hx3⟩; have HX3 := Lib.hid (show Ext w w3 from ext_trans (ext_trans HX2.out extA) hx3))))
  go_ret
  exact ⟨rfl, ext_trans HX3.out extA⟩
end Go.Proofs.Ytiladkinndgeaaa
