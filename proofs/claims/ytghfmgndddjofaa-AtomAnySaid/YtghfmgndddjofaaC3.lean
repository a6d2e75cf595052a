/- slices.Insert, of one atom, into atoms of one's own. -/
import Derived.Test.YtghfmgndddjofaaC2
set_option linter.unusedVariables false
set_option linter.unusedSimpArgs false
namespace Go.Proofs.Ytghfmgndddjofaa
open Go Go.RowKit Go.BigFrame Cp

section
variable {α : Type} {R : Rd α} {sz : Nat} {F : Nat → Prop} {w : World} {xs : List Value} {l : List α}
theorem chunks_take (h : Chunks R sz F w xs l) {i : Nat} (hi : i ≤ l.length) : Chunks R sz F w (xs.take (i * sz)) (l.take i) := by
  have hle : i * sz ≤ xs.length := by rw [h.1]; exact Nat.mul_le_mul_right _ hi
  refine ⟨by rw [List.length_take, List.length_take, Nat.min_eq_left hle, Nat.min_eq_left hi], fun j x hj => ?_⟩
  rw [List.getElem?_take] at hj
  split at hj
  · rename_i hlt
    have h2 := h.2 j x hj
    have h3 : (j + 1) * sz ≤ i * sz := Nat.mul_le_mul_right _ hlt
    rw [Nat.add_mul, Nat.one_mul] at h3
    rw [List.drop_take, List.take_take, Nat.min_eq_left (by omega)]
    exact h2
  · cases hj
theorem chunks_drop (h : Chunks R sz F w xs l) {i : Nat} (hi : i ≤ l.length) : Chunks R sz F w (xs.drop (i * sz)) (l.drop i) := by
  refine ⟨by rw [List.length_drop, List.length_drop, h.1, Nat.mul_sub_right_distrib], fun j x hj => ?_⟩
  rw [List.getElem?_drop] at hj
  have h2 := h.2 (i + j) x hj
  rw [List.drop_drop, ← Nat.add_mul]
  exact h2
end
theorem at_row {F : Nat → Prop} {w : World} {xs : List Value} : ∀ {l : List At}, Chunks RAt 3 F w xs l → ∀ u ∈ xs, u.oneCell' = true
  | [], h, u, hu => by
    have : xs = [] := List.length_eq_zero_iff.1 (by simpa using h.1)
    subst this; simp at hu
  | x :: l, h, u, hu => by
    obtain ⟨h1, h2⟩ := chunks_tail h
    rw [← List.take_append_drop 3 xs] at hu
    rcases List.mem_append.1 hu with hu | hu
    · exact one_at _ _ _ _ h1 u hu
    · exact at_row h2 u hu
set_option maxRecDepth 100000 in
set_option maxHeartbeats 4000000 in
theorem insert_any {base : Nat} {F G : Nat → Prop} {w : World} {v : Value} {l : List At} {i vb : Nat} {te : TypeId} {x0 x1 x2 : Value} {x : At} (hown : OSl RAt 3 77 base F w v l) (hi : i ≤ l.length) (hl : l.length ≤ 1000)
    (hv : w.heap[vb]? = some (.cells #[x0, x1, x2] te (0, 0))) (hx : RAt G w [x0, x1, x2] x) (hG : ∀ k, G k → k < w.heap.size → F k ∧ some k ≠ v.ownBlock) (hvb : some vb ≠ v.ownBlock) (hFv : F vb) (hbase : base ≤ w.heap.size) :
    Calls Try.prog 120 #[v, .int .i64 i, .slice (some ⟨vb, 0, none⟩) 1 1] w fun e w' => ∃ v', e = .returned v' ∧ OSl RAt 3 77 base F w' v' (l.take i ++ x :: l.drop i) ∧ w.grownBy w' v.ownBlock ∧ (v'.ownBlock = v.ownBlock ∨ v'.ownBlock = some w.heap.size) := by
  have hvw : vb < w.heap.size := (Array.getElem?_eq_some_iff.1 hv).1
  have h1v : ∀ u ∈ [x0, x1, x2], u.oneCell' = true := one_at _ _ _ _ hx
  have hone : RSl RAt 3 (fun k => G k ∨ k = vb) w (.slice (some ⟨vb, 0, none⟩) 1 1) [x] :=
    rsl_of_range (o := 0) (xs := [x0, x1, x2]) (fun j u hj => by rw [Nat.zero_add]; exact cell_row hv (by simpa using hj)) (chunks_one rfl (gAt.more (fun k hk _ => Or.inl hk) hx)) (Or.inr rfl) hvw (Nat.le_refl _) (by unfold maxLen; omega)
  by_cases hin : i = l.length
  · subst hin
    have e : l.take l.length ++ x :: l.drop l.length = l ++ [x] := by simp
    rw [e]
    obtain ⟨i0, hi0, hz0, hz1, hz2⟩ := info_parts c_info
    have HJ := Lib.hid hi0
    have HZ0 := Lib.hid hz0
    have HZ1 := Lib.hid hz1
    have HZ2 := Lib.hid hz2
    have HO := Lib.hid hown
    have HONE := Lib.hid hone
    have HGG := Lib.hid (show ∀ k, (G k ∨ k = vb) → k < w.heap.size → F k ∧ some k ≠ v.ownBlock from fun k hk hlt => hk.elim (fun h => hG k h hlt) (fun h => h ▸ ⟨hFv, hvb⟩))
    have HL := Lib.hid hl
    have HB := Lib.hid hbase
    obtain ⟨xs, hrow, hch⟩ := hown
    rcases hrow.2 with ⟨rfl, h0⟩ | ⟨g, c, cur, rfl, hb, hh, hnc, hcm, hcs, ht⟩
    · obtain rfl : l = [] := List.length_eq_zero_iff.1 h0
      clear hrow hch h0 hi0 hz0 hz1 hz2 hone hvb hG hv hx hl hi hbase hvw
      go_enter Try.func120, Try.ntmps120
      go_wp2_with (at_builtin; go_must (refine wpList_appAll gAt rfl (.tmp 23) (.tmp 24) 59 rfl base 77 i0 _ 3 40 Try.underlying59 HJ.out HZ0.out HZ1.out HZ2.out rfl (by omega) (F := F) (G := fun k => G k ∨ k = vb) (.slice none 0 0) [] rfl HO.out (.slice (some ⟨vb, 0, none⟩) 1 1) [x] rfl HONE.out one_at HGG.out (c_len HL.out) (c_byt HL.out) HB.out ?_; intro v9 w9 hown9 hg9 hat9; obtain ⟨a9, n9, c9, rfl⟩ := osl_slice hown9))
      go_ret
      exact ⟨_, rfl, hown9, hg9, hat9⟩
    · have hcmI : l.length ≤ 9223372036854775807 := by omega
      have hii : (0 : Int) ≤ (l.length : Int) := Int.natCast_nonneg _
      have hncI : (l.length : Int) ≤ (c : Int) := by exact_mod_cast hnc
      clear hrow hch hi0 hz0 hz1 hz2 hone hvb hG hv hx hi hbase hvw hh hcs ht hcm hb
      go_enter Try.func120, Try.ntmps120
      go_wp2_with (at_builtin; go_must (refine wpList_appAll gAt rfl (.tmp 23) (.tmp 24) 59 rfl base 77 i0 _ 3 40 Try.underlying59 HJ.out HZ0.out HZ1.out HZ2.out rfl (by omega) (F := F) (G := fun k => G k ∨ k = vb) (.slice (some ⟨g, 0, none⟩) l.length c) l rfl HO.out (.slice (some ⟨vb, 0, none⟩) 1 1) [x] rfl HONE.out one_at HGG.out (c_len HL.out) (c_byt HL.out) HB.out ?_; intro v9 w9 hown9 hg9 hat9; obtain ⟨a9, n9, c9, rfl⟩ := osl_slice hown9))
      all_goals go_ret
      all_goals exact ⟨_, rfl, hown9, hg9, hat9⟩
  · obtain ⟨xs, hrow, hch⟩ := hown
    have h1 := at_row hch
    rcases hrow.2 with ⟨rfl, h0⟩ | ⟨g, c, cur, rfl, hb, hh, hnc, hcm, hcs, ht⟩
    · omega
    · have hne : vb ≠ g := fun e => hvb (congrArg some e)
      have hxl : l.take i ++ x :: l.drop i = l.take i ++ [x] ++ l.drop i := by simp
      have hcs' : Chunks RAt 3 (fun k => F k ∧ some k ≠ some g) w (xs.take (i * 3) ++ [x0, x1, x2] ++ xs.drop (i * 3)) (l.take i ++ x :: l.drop i) := by
        rw [hxl]
        exact chunks_app (chunks_app (chunks_take hch hi) (chunks_one rfl (gAt.more hG hx))) (chunks_drop hch hi)
      have hlen : (l.take i ++ x :: l.drop i).length = l.length + 1 := by simp; omega
      subst ht
      by_cases hroom : l.length + 1 ≤ c
      · refine (insert_shift hh (by omega) hroom (by unfold maxLen at hcm; omega) hcs hv hne h1 h1v hl).mono ?_
        rintro e w' ⟨rfl, row, hrs, hrt, hrh, hgr⟩
        refine ⟨_, rfl, ⟨_, ⟨hcs'.1, .inr ⟨g, c, row, by rw [hlen], hb, hrh, by rw [hlen]; exact hroom, hcm, hrs, by rw [hlen]; exact hrt⟩⟩, ?_⟩, hgr, .inl rfl⟩
        exact chunks_keep gAt ⟨hgr.size, fun k hk hlt => hgr.block k hlt hk.2⟩ hcs'
      · refine (insert_grow hh (by omega) hnc (by omega) (by unfold maxLen at hcm; omega) hcs hv h1 h1v hl).mono ?_
        rintro e w' ⟨G', rfl, hG1, hG2, row, hrs, hrt, hrh, hgr⟩
        refine ⟨_, rfl, ⟨_, ⟨hcs'.1, .inr ⟨w.heap.size, G', row, by rw [hlen], hbase, hrh, by rw [hlen]; exact hG1, hG2, hrs, by rw [hlen]; exact hrt⟩⟩, ?_⟩, ⟨hgr.os, hgr.tape, hgr.output, hgr.size, fun k hlt _ => hgr.block k hlt (by simp)⟩, .inr rfl⟩
        exact chunks_keep gAt ⟨hgr.size, fun k hk hlt => hgr.block k hlt (by simp)⟩ (chunks_more gAt (fun k hk hlt => ⟨hk.1, fun e => by have e' : k = w.heap.size := by simpa [Value.ownBlock] using e
                                                                                                                                         omega⟩) hcs')
end Go.Proofs.Ytghfmgndddjofaa
