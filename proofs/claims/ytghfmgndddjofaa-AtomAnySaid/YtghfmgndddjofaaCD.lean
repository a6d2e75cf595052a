/- slices.IndexFunc and slices.DeleteFunc, of atoms. -/
import Derived.Test.YtghfmgndddjofaaCA
import Derived.Test.YtghfmgndddjofaaC2
import Derived.Test.YtghfmgndddjofaaC3
set_option linter.unusedVariables false
set_option linter.unusedSimpArgs false
namespace Go.Proofs.Ytghfmgndddjofaa
open Go Go.RowKit Go.BigFrame Cp

section
variable {P : Program}
theorem zeros_len (z : Array Value) (n : Nat) : (Builtin.zeroCells z n).toList.length = n * z.size := by simp [Builtin.zeroCells]
theorem zeros_mem {z : Array Value} {n : Nat} {v : Value} (h : v ∈ (Builtin.zeroCells z n).toList) : v ∈ z.toList := by
  simp only [Builtin.zeroCells, Array.toList_map, List.mem_map] at h
  obtain ⟨i, hi, rfl⟩ := h
  have hi' : i < n * z.size := by simpa using hi
  have hz : 0 < z.size := by
    rcases Nat.eq_zero_or_pos z.size with h0 | h0
    · rw [h0] at hi'; omega
    · exact h0
  rw [getElem!_pos z (i % z.size) (Nat.mod_lt _ hz)]
  simp
/-- clear, of elements of any size: the row's head stays -/
theorem run_clearN (w : World) (dT ty elem : TypeId) (z : Value) (g o n cap : Nat) (cur : Array Value) (t : TypeId) (hu : P.underlying dT = some (.slice elem)) (hv : ∀ w, (zeroValue elem).run P w = .ok z w) (hn : 0 < n)
    (hg : w.heap[g]? = some (.cells cur t (0, 0))) (hfit : o + n * z.cells.size ≤ cur.size) (h1 : ∀ v ∈ z.cells.toList, v.oneCell' = true) :
    (Builtin.clear_ #[dT] ty #[.slice (some ⟨g, o, none⟩) n cap]).run P w = .ok (.tuple #[]) (w.setRow g (cur.toList.take o ++ (Builtin.zeroCells z.cells n).toList ++ cur.toList.drop (o + (Builtin.zeroCells z.cells n).toList.length)).toArray) := by
  obtain ⟨zs, hz⟩ : ∃ zs, zs = (Builtin.zeroCells z.cells n).toList := ⟨_, rfl⟩
  have hl : zs.length = n * z.cells.size := by rw [hz, zeros_len]
  have hst := run_storeCells_at P g o t zs 0 cur w hg (by simpa [hl] using hfit) (fun v hv => h1 v (zeros_mem (by rw [← hz]; exact hv)))
  obtain ⟨m, rfl⟩ : ∃ m, n = m + 1 := ⟨n - 1, by omega⟩
  rw [← hz]
  simp [Builtin.clear_, run_underlying hu, hv, ← hz, hst]
end
/-- the first atom that goes, or none -/
def IsFirst (l : List At) (ms : List Mk) (w : World) (e : Ending) (w' : World) : Prop :=
  ∃ n : Int, e = .returned (.int .i64 n) ∧ Ext w w' ∧ ((n = -1 ∧ takeA l ms = l) ∨ ∃ k : Nat, k < l.length ∧ n = (k : Int) ∧ takeA (l.take (k + 1)) ms = l.take k)
theorem takeA_y {l : List At} {ms : List Mk} {k : Nat} {a : At} (h : l[k]? = some a) (g : hasG ms a.1 = true) : takeA (l.take (k + 1)) ms = takeA (l.take k) ms := by rw [takeA_step h, g]; simp
theorem takeA_n {l : List At} {ms : List Mk} {k : Nat} {a : At} (h : l[k]? = some a) (g : hasG ms a.1 = false) : takeA (l.take (k + 1)) ms = takeA (l.take k) ms ++ [a] := by rw [takeA_step h, g]; simp
theorem take_snoc' {α : Type} {l : List α} {k : Nat} {a : α} (h : l[k]? = some a) : l.take (k + 1) = l.take k ++ [a] := by
  obtain ⟨h1, h2⟩ := List.getElem?_eq_some_iff.1 h
  rw [List.take_succ_eq_append_getElem h1, h2]
set_option maxRecDepth 100000 in
set_option maxHeartbeats 4000000 in
theorem idxAt_any {F : Nat → Prop} {w : World} {v : Value} {l : List At} {ms : List Mk} {b : Nat} (h : RSl RAt 3 F w v l) (hb : BoxMs b ms w) :
    Calls Try.prog 126 #[v, .func (.func 83) #[] #[.pointer (some ⟨b, 0, none⟩)]] w (IsFirst l ms w) := by
  obtain ⟨a1, n1, c1, rfl⟩ := h.slice
  obtain ⟨rfl, k1, k1'⟩ := h.len
  unfold maxLen at k1'
  have q1 : l.length ≤ 9223372036854775807 := by omega
  clear k1 k1'
  have HL := Lib.hid h
  have HP := Lib.hid (fun (W : World) (hx : Ext w W) (F' : Nat → Prop) (cs : List Value) (x : At) (h' : RAt F' W cs x) => take1_any h' (boxMs_ext hb hx))
  clear h hb
  go_enter Try.func126, Try.ntmps126
  go_wp2
  go_loopw [8] (fun i wr => ∃ k : Nat, k ≤ l.length ∧ i = .int .i64 k ∧ Hid (takeA (l.take k) ms = l.take k) ∧ Ext w wr) (fun i _ => l.length - (intOf i).toNat)
  case atStart => exact ⟨0, by omega, rfl, Lib.hid rfl, ext_refl _⟩
  case round =>
    obtain ⟨k, hk1, rfl, ho, hx⟩ := hrel
    have HX := Lib.hid hx
    clear hx
    by_cases h1 : k < l.length
    · obtain ⟨b1, o1, p1, d1, s1, ap, cp, rfl, hb1, e1, ick, hpp, y0, y1, y2⟩ := atm_at (HL.out.ext gAt HX.out) h1
      have HC0 := Lib.hid (fun (W : World) (hx : Ext wr W) => HP.out W (ext_trans HX.out hx) _ _ _ (rat_of (s := s1) (hpp.ext gStp hx) ick))
      cases g1 : hasG ms (p1, d1) with
      | true =>
        have HA := Lib.hid (show takeA (l.take (k + 1)) ms = l.take k by rw [takeA_y e1 g1]; exact ho.out)
        simp only [g1] at HC0
        clear e1 hb1 hpp ick g1
        go_wp2_with (go_at_call 83; go_must ((with_reducible refine (HC0.out _ (by repeat (first | (with_reducible exact ext_refl _) | (with_reducible assumption) | (with_reducible refine ext_drew ?_) | (with_reducible refine ext_drewN ?_ _) | (with_reducible refine ext_alloc ?_ _) | (with_reducible refine ext_set ?_ (by first | omega | (simp <;> omega)) _) | (with_reducible refine ext_trans ?_ (by with_reducible assumption))))).mono ?_); rintro e w1 ⟨rfl, hx1⟩; skip))
        go_ret
        exact ⟨k, rfl, ext_trans HX.out hx1, .inr ⟨k, h1, rfl, HA.out⟩⟩
      | false =>
        have HD := Lib.hid (show takeA (l.take (k + 1)) ms = l.take (k + 1) by rw [takeA_n e1 g1, ho.out, take_snoc' e1])
        simp only [g1] at HC0
        clear e1 hb1 hpp ick g1
        go_wp2_with (go_at_call 83; go_must ((with_reducible refine (HC0.out _ (by repeat (first | (with_reducible exact ext_refl _) | (with_reducible assumption) | (with_reducible refine ext_drew ?_) | (with_reducible refine ext_drewN ?_ _) | (with_reducible refine ext_alloc ?_ _) | (with_reducible refine ext_set ?_ (by first | omega | (simp <;> omega)) _) | (with_reducible refine ext_trans ?_ (by with_reducible assumption))))).mono ?_); rintro e w1 ⟨rfl, hx1⟩; skip))
        go_roundw
        case rel => exact ⟨k + 1, by omega, by go_num, HD, ext_trans HX.out hx1⟩
        case measure => simp [intOf]; omega
    · have hk : k = l.length := by omega
      subst hk
      have ho' := ho.out
      rw [List.take_of_length_le (Nat.le_refl _)] at ho'
      have HO := Lib.hid ho'
      clear ho ho'
      go_wp2
      go_ret
      exact ⟨-1, rfl, HX.out, .inl ⟨rfl, HO.out⟩⟩
theorem osl_set3 {α : Type} {R : Rd α} (g : Cp.Good R) {e base : TypeId} {F : Nat → Prop} {w : World} {b n c : Nat} {l : List α} (h : OSl R 3 e base F w (.slice (some ⟨b, 0, none⟩) n c) l) {i : Nat} (hi : i < l.length) {x : α} {u0 u1 u2 : Value} (hx : R (fun k => F k ∧ k ≠ b) w [u0, u1, u2] x) :
    OSl R 3 e base F (((w.setCell ⟨b, i * 3, none⟩ u0).setCell ⟨b, i * 3 + 1, none⟩ u1).setCell ⟨b, i * 3 + 2, none⟩ u2) (.slice (some ⟨b, 0, none⟩) n c) (l.set i x) := by
  have hn : n = l.length := (osl_len h).1
  subst hn
  obtain ⟨xs, h1, h2⟩ := h
  have s0 := World.ownsRow.stored h1 (i * 3) u0
  have s1 := World.ownsRow.stored s0.1 (i * 3 + 1) u1
  have s2 := World.ownsRow.stored s1.1 (i * 3 + 2) u2
  have hxl : xs.length = l.length * 3 := h2.1
  have hkeep : Keeps (fun k => F k ∧ some k ≠ (Value.slice (some ⟨b, 0, none⟩) l.length c).ownBlock) w (((w.setCell ⟨b, i * 3, none⟩ u0).setCell ⟨b, i * 3 + 1, none⟩ u1).setCell ⟨b, i * 3 + 2, none⟩ u2) :=
    keeps_set (keeps_set (keeps_set keeps_refl (fun _ hp => hp.2 rfl) _) (fun _ hp => hp.2 rfl) _) (fun _ hp => hp.2 rfl) _
  have hx' : R (fun k => F k ∧ some k ≠ (Value.slice (some ⟨b, 0, none⟩) l.length c).ownBlock) w [u0, u1, u2] x := g.more (fun k hk _ => ⟨hk.1, fun e => hk.2 (by simpa [Value.ownBlock] using e)⟩) hx
  refine ⟨((xs.set (i * 3) u0).set (i * 3 + 1) u1).set (i * 3 + 2) u2, by simpa using s2.1, by simp [h2.1], fun k y hk => ?_⟩
  by_cases hki : k = i
  · subst hki
    rw [List.getElem?_set_self hi] at hk
    have : x = y := by simpa using hk
    subst this
    have e : ((((xs.set (k * 3) u0).set (k * 3 + 1) u1).set (k * 3 + 2) u2).drop (k * 3)).take 3 = [u0, u1, u2] := by
      apply List.ext_getElem?
      intro m
      match m with
      | 0 =>
        rw [List.getElem?_take_of_lt (by omega), List.getElem?_drop]
        show (((xs.set (k * 3) u0).set (k * 3 + 1) u1).set (k * 3 + 2) u2)[k * 3]? = some u0
        rw [List.getElem?_set_ne (by omega), List.getElem?_set_ne (by omega), List.getElem?_set_self (by omega)]
      | 1 => rw [List.getElem?_take_of_lt (by omega), List.getElem?_drop, List.getElem?_set_ne (by omega), List.getElem?_set_self (by simp; omega)]; rfl
      | 2 => rw [List.getElem?_take_of_lt (by omega), List.getElem?_drop, List.getElem?_set_self (by simp; omega)]; rfl
      | m + 3 => rw [List.getElem?_eq_none (by simp; omega), List.getElem?_eq_none (by simp)]
    rw [e]
    exact g.keep hkeep hx'
  · rw [List.getElem?_set_ne (Ne.symm hki)] at hk
    have h3 := g.keep hkeep (h2.2 k y hk)
    have e : ((((xs.set (i * 3) u0).set (i * 3 + 1) u1).set (i * 3 + 2) u2).drop (k * 3)).take 3 = (xs.drop (k * 3)).take 3 := by
      apply List.ext_getElem?
      intro m
      by_cases hm : m < 3
      · rw [List.getElem?_take_of_lt hm, List.getElem?_take_of_lt hm, List.getElem?_drop, List.getElem?_drop, List.getElem?_set_ne (by omega), List.getElem?_set_ne (by omega), List.getElem?_set_ne (by omega)]
      · rw [List.getElem?_eq_none (by simp; omega), List.getElem?_eq_none (by simp; omega)]
    rw [e]; exact h3
theorem oat_all {e base : Nat} {F : Nat → Prop} {w : World} {a : Option Addr} {n c : Nat} {q : List At} (h : OSl RAt 3 e base F w (.slice a n c) q) {i : Nat} (hi : i < q.length) :
    ∃ g p d s ap cp, a = some ⟨g, 0, none⟩ ∧ base ≤ g ∧ g < w.heap.size ∧ q[i]? = some ((p, d), s) ∧ RSl RStp 2 (fun k => F k ∧ k ≠ g) w (.slice ap p.length cp) p ∧ I64 d ∧
      w.cell? ⟨g, i * 3, none⟩ = some (.slice ap p.length cp) ∧ w.cell? ⟨g, i * 3 + 1, none⟩ = some (.int .i64 d) ∧ w.cell? ⟨g, i * 3 + 2, none⟩ = some (.int .u8 (s : UInt8).toNat) ∧ ∀ o, w.frozen? ⟨g, o, none⟩ = false := by
  obtain ⟨g, x, cs, _, ha, hb, hs, hx, _, hr, ⟨v, rfl, h1, h2⟩, hf⟩ := osl_at h hi
  obtain ⟨ap, np, cp, rfl⟩ := h1.slice
  obtain ⟨rfl, _, _⟩ := h1.len
  obtain ⟨⟨p, d⟩, s⟩ := x
  exact ⟨g, p, d, s, ap, cp, ha, hb, hs, hx, h1, h2, by simpa using hr 0 _ rfl, by simpa [Nat.add_assoc] using hr 1 _ rfl, by simpa [Nat.add_assoc] using hr 2 _ rfl, hf⟩
/-- cleared behind its first elements, and cut -/
theorem osl_cut {base : Nat} {F : Nat → Prop} {w : World} {g n c : Nat} {q : List At} (h : OSl RAt 3 77 base F w (.slice (some ⟨g, 0, none⟩) n c) q) {i : Nat} (hi : i < q.length) {i0 : TypeInfo} (hj : Try.prog.info? 77 = some i0) (hz : i0.zero = some (.agg #[.slice none 0 0, .int .i64 0, .int .u8 0])) :
    ∃ R : Array Value, (∀ W : World, W.heap = w.heap → ∀ ty cap, (Builtin.clear_ #[59] ty #[.slice (some ⟨g, i * 3, none⟩) (q.length - i) cap]).run Try.prog W = .ok (.tuple #[]) (W.setRow g R)) ∧
      ∀ W : World, W.heap = w.heap → OSl RAt 3 77 base F (W.setRow g R) (.slice (some ⟨g, 0, none⟩) i c) (q.take i) := by
  obtain ⟨rfl, hc1, hc2⟩ := osl_len h
  obtain ⟨xs, h1, h2⟩ := h
  rcases h1.2 with ⟨hv, _⟩ | ⟨g', cap, cur, hv, hb, hh, hn, hcap, hsz, htk⟩
  · cases hv
  · injection hv with e1 e2 e3
    obtain rfl : g = g' := by simpa using e1
    subst e3
    have hx3 : xs.length = q.length * 3 := h2.1
    have hcur : cur.toList.length = c * 3 := by simpa using hsz
    have hv : ∀ w, (zeroValue 77).run Try.prog w = .ok (.agg #[.slice none 0 0, .int .i64 0, .int .u8 0]) w := fun w => by simp [zeroValue, typeInfo, hj, hz]
    obtain ⟨R0, hR⟩ : ∃ R : Array Value, R = (cur.toList.take (i * 3) ++ (Builtin.zeroCells (Value.agg #[.slice none 0 0, .int .i64 0, .int .u8 0]).cells (q.length - i)).toList ++ cur.toList.drop (i * 3 + (Builtin.zeroCells (Value.agg #[.slice none 0 0, .int .i64 0, .int .u8 0]).cells (q.length - i)).toList.length)).toArray := ⟨_, rfl⟩
    have hzl : (Builtin.zeroCells (Value.agg #[.slice none 0 0, .int .i64 0, .int .u8 0]).cells (q.length - i)).toList.length = (q.length - i) * 3 := by rw [zeros_len]; rfl
    have hfit : i * 3 + (q.length - i) * 3 ≤ c * 3 := by omega
    have hRs : R0.size = c * 3 := by rw [hR, List.size_toArray, row_size (by rw [hzl]; omega)]; exact hcur
    have hRt : R0.toList.take (i * 3) = xs.take (i * 3) := by
      rw [hR, List.toList_toArray, List.append_assoc, List.take_left' (by rw [List.length_take]; omega), ← htk, List.take_take, Nat.min_eq_left (by omega)]
    refine ⟨R0, fun W hW ty cap' => ?_, fun W hW => ⟨xs.take (i * 3), ?_, ?_⟩⟩
    · rw [hR]
      exact run_clearN W _ ty _ _ g (i * 3) (q.length - i) cap' cur 77 Try.underlying59 hv (by omega) (by rw [hW]; exact hh) (by rw [hsz]; exact hfit) (by intro v hv; simp [Value.cells] at hv; rcases hv with rfl | rfl | rfl <;> rfl)
    · have hle : i ≤ q.length := Nat.le_of_lt hi
      refine ⟨by rw [List.length_take, List.length_take]; omega, .inr ⟨g, c, R0, by rw [List.length_take, Nat.min_eq_left hle], hb, setRow_heap W g cur R0 _ _ (by rw [hW]; exact hh), by rw [List.length_take]; omega, hcap, hRs, by rw [List.length_take, Nat.min_eq_left hle]; exact hRt⟩⟩
    · have h3 := chunks_take h2 (Nat.le_of_lt hi)
      refine chunks_keep gAt ⟨by simp [World.setRow, hW], fun k hk hlt => (setRow_other W g k R0 (fun e => hk.2 (by rw [e]; rfl))).trans (by rw [hW])⟩ h3
theorem ext_row {a w : World} (h : Ext a w) {g : Nat} {R : Array Value} (hg : a.heap.size ≤ g) : Ext a (w.setRow g R) := by
  have h' : Below a.heap.size a w := h
  exact ⟨h'.os, h'.tape, h'.output, Nat.le_trans h'.size (by simp), fun k hk => (setRow_other w g k R (by omega)).trans (h'.block k hk)⟩
theorem set_take {α : Type} {q : List α} {i : Nat} {x : α} (hi : i < q.length) : (q.set i x).take (i + 1) = q.take i ++ [x] := by
  rw [take_snoc' (a := x) (by rw [List.getElem?_set_self hi]), List.take_set_of_le (Nat.le_refl _)]
/-- how far it has come: the first i are what stays of the first j -/
def Gone (l : List At) (ms : List Mk) (i j : Nat) (q : List At) : Prop := i < j ∧ q.length = l.length ∧ q.take i = takeA (l.take j) ms ∧ ∀ t, j ≤ t → q[t]? = l[t]?
theorem gone_start {l : List At} {ms : List Mk} {k : Nat} (h : takeA (l.take (k + 1)) ms = l.take k) : Gone l ms k (k + 1) l := ⟨Nat.lt_succ_self _, rfl, h.symm, fun _ _ => rfl⟩
theorem gone_y {l q : List At} {ms : List Mk} {i j : Nat} {x : At} (h : Gone l ms i j q) (hx : q[j]? = some x) (g : hasG ms x.1 = true) : Gone l ms i (j + 1) q :=
  ⟨by have := h.1; omega, h.2.1, by rw [takeA_y ((h.2.2.2 j (Nat.le_refl _)).symm.trans hx) g]; exact h.2.2.1, fun t ht => h.2.2.2 t (by omega)⟩
theorem gone_n {l q : List At} {ms : List Mk} {i j : Nat} {x : At} (h : Gone l ms i j q) (hj : j < l.length) (hx : q[j]? = some x) (g : hasG ms x.1 = false) : Gone l ms (i + 1) (j + 1) (q.set i x) := by
  obtain ⟨h1, h2, h3, h4⟩ := h
  refine ⟨by omega, by rw [List.length_set]; exact h2, ?_, fun t ht => ?_⟩
  · rw [set_take (by omega), h3, takeA_n ((h4 j (Nat.le_refl _)).symm.trans hx) g]
  · rw [List.getElem?_set_ne (by omega)]; exact h4 t (by omega)
set_option maxRecDepth 100000 in
set_option maxHeartbeats 4000000 in
theorem delete_any {w0 w : World} {v : Value} {l : List At} {ms : List Mk} {b : Nat} (h : OSl RAt 3 77 w0.heap.size (fun j => w0.heap.size ≤ j) w v l) (hl : l.length ≤ 1000) (hw : Ext w0 w) (hb : BoxMs b ms w0) :
    Calls Try.prog 87 #[v, .func (.func 83) #[] #[.pointer (some ⟨b, 0, none⟩)]] w fun e w' => ∃ v', e = .returned v' ∧ OSl RAt 3 77 w0.heap.size (fun j => w0.heap.size ≤ j) w' v' (takeA l ms) ∧ Ext w0 w' := by
  obtain ⟨i0, hi0, hz0, hz1', hz2⟩ := info_parts c_info
  have HJ := Lib.hid hi0
  have HZ0 := Lib.hid hz0
  clear hi0 hz0 hz1' hz2
  have HX0 := Lib.hid hw
  have HID := Lib.hid (idxAt_any (osl_rsl gAt h (G := fun _ => True) (fun _ _ _ => trivial) (fun _ _ => trivial)) (boxMs_ext hb hw))
  have HP := Lib.hid (fun (W : World) (hx : Ext w0 W) (F' : Nat → Prop) (cs : List Value) (x : At) (h' : RAt F' W cs x) => take1_any h' (boxMs_ext hb hx))
  have HO := Lib.hid h
  obtain ⟨a0, n0, c0, rfl⟩ := osl_slice h
  obtain ⟨rfl, hc1, hc2⟩ := osl_len h
  have hcmI : c0 ≤ 9223372036854775807 := by unfold maxLen at hc2; omega
  clear h hb hw hc2
  go_enter Try.func87, Try.ntmps87
  go_wp2_with (first
    | (go_at_call 126; go_must ((with_reducible refine (HID.out).mono ?_); rintro e w1 ⟨n, rfl, hx1, hf⟩; have HF := Lib.hid hf; clear hf)))
  · rename_i t1
    rcases HF.out with ⟨rfl, hta⟩ | ⟨k, hk, rfl, hta⟩
    · have HT := Lib.hid hta
      clear hta
      go_ret
      exact ⟨_, rfl, by rw [HT.out]; exact osl_ext gAt HO.out hx1, ext_trans HX0.out hx1⟩
    · simp at t1
  · have t1 : (n == -1) = false := by assumption
    rcases HF.out with ⟨rfl, _⟩ | ⟨k, hk, rfl, hta⟩
    · cases t1
    have kw : wrap64 ((k : Int) + 1) = (k : Int) + 1 := IntWalk.wrap64_in _ (by omega)
    have HS := Lib.hid (gone_start hta)
    have HO1 := Lib.hid (osl_ext gAt HO.out hx1)
    have HX1 := Lib.hid (ext_trans HX0.out hx1)
    clear hta HO hx1 HX0 HID t1 HF
    clear ‹((k : Int) == -1) = false›
    generalize ((k : Int) == -1) = bb at *
    go_loopw [5, 6] (fun iv jv wr => ∃ (i j : Nat) (q : List At), j ≤ l.length ∧ iv = .int .i64 i ∧ jv = .int .i64 j ∧ Hid (Gone l ms i j q) ∧ Hid (OSl RAt 3 77 w0.heap.size (fun j => w0.heap.size ≤ j) wr (.slice a0 l.length c0) q) ∧ Ext w0 wr) (fun _ jv _ => l.length - (intOf jv).toNat)
    case atStart => exact ⟨k, k + 1, l, by omega, rfl, (by first | go_num | (rw [kw]; rfl)), HS, HO1, HX1.out⟩
    case round =>
      clear kw HO1 HX1 HS
      obtain ⟨i, j, q, hj, rfl, rfl, HG, HQ, hx⟩ := hrel
      have hzr := hx.size
      have HX := Lib.hid hx
      clear hx
      have hij := HG.out.1
      have hql : q.length = l.length := HG.out.2.1
      by_cases hlt : j < l.length
      · obtain ⟨g, p, d, s, ap, cp, rfl, hbg, hgs, ej, hpp, ick, y0, y1, y2, yf⟩ := oat_all HQ.out (i := j) (by omega)
        obtain ⟨g', p5, d5, s5, ap5, cp5, eg, _, _, _, _, _, z0, z1, z2, _⟩ := oat_all HQ.out (i := i) (by omega)
        obtain rfl : g = g' := by simpa using eg
        have ii0 : (0 : Int) ≤ (i : Int) := Int.natCast_nonneg i
        have ii1 : (i : Int) < (l.length : Int) := by exact_mod_cast (show i < l.length by omega)
        have f0 := yf (i * 3)
        have f1 := yf (i * 3 + 1)
        have f2 := yf (i * 3 + 2)
        have hgn : ¬ g = wr.heap.size := by omega
        have hgn' : ¬ wr.heap.size = g := by omega
        have HC0 := Lib.hid (fun (W : World) (hx : Ext wr W) => HP.out W (ext_trans HX.out hx) _ _ _ (rat_of (s := s) (hpp.ext gStp hx) ick))
        cases g1 : hasG ms (p, d) with
        | true =>
          have HN := Lib.hid (gone_y HG.out ej g1)
          simp only [g1] at HC0
          clear ej hpp ick g1 yf
          go_wp2_with (go_at_call 83; go_must ((with_reducible refine (HC0.out _ (by repeat (first | (with_reducible exact ext_refl _) | (with_reducible assumption) | (with_reducible refine ext_drew ?_) | (with_reducible refine ext_drewN ?_ _) | (with_reducible refine ext_alloc ?_ _) | (with_reducible refine ext_set ?_ (by first | omega | (simp <;> omega)) _) | (with_reducible refine ext_trans ?_ (by with_reducible assumption))))).mono ?_); rintro e w1 ⟨rfl, hx1⟩; skip))
          go_roundw
          case rel => exact ⟨i, j + 1, q, by omega, rfl, by go_num, HN, Lib.hid (osl_ext gAt HQ.out (by repeat (first | (with_reducible exact ext_refl _) | (with_reducible assumption) | (with_reducible refine ext_drew ?_) | (with_reducible refine ext_drewN ?_ _) | (with_reducible refine ext_alloc ?_ _) | (with_reducible refine ext_set ?_ (by first | omega | (simp <;> omega)) _) | (with_reducible refine ext_trans ?_ (by with_reducible assumption))))), ext_trans HX.out (by repeat (first | (with_reducible exact ext_refl _) | (with_reducible assumption) | (with_reducible refine ext_drew ?_) | (with_reducible refine ext_drewN ?_ _) | (with_reducible refine ext_alloc ?_ _) | (with_reducible refine ext_set ?_ (by first | omega | (simp <;> omega)) _) | (with_reducible refine ext_trans ?_ (by with_reducible assumption))))⟩
          case measure => simp [intOf]; omega
        | false =>
          have HN := Lib.hid (gone_n HG.out hlt ej g1)
          have HPP := Lib.hid (fun (W : World) (hx : Ext wr W) => hpp.ext gStp hx)
          have HIC := Lib.hid ick
          simp only [g1] at HC0
          clear ej hpp ick g1 yf
          go_wp2_with (go_at_call 83; go_must ((with_reducible refine (HC0.out _ (by repeat (first | (with_reducible exact ext_refl _) | (with_reducible assumption) | (with_reducible refine ext_drew ?_) | (with_reducible refine ext_drewN ?_ _) | (with_reducible refine ext_alloc ?_ _) | (with_reducible refine ext_set ?_ (by first | omega | (simp <;> omega)) _) | (with_reducible refine ext_trans ?_ (by with_reducible assumption))))).mono ?_); rintro e w1 ⟨rfl, hx1⟩; have hz1 := hx1.size; (try simp at hz1); have hb1 : wr.heap.size < w1.heap.size := (by omega); have q0 := (hx1.cells (g) (j * 3) (by first | omega | (simp <;> omega))).trans (show _ = some (.slice ap p.length cp) by first | assumption | go_simp); have q1 := (hx1.cells (g) (j * 3 + 1) (by first | omega | (simp <;> omega))).trans (show _ = some (.int .i64 d) by first | assumption | go_simp); have q2 := (hx1.cells (g) (j * 3 + 2) (by first | omega | (simp <;> omega))).trans (show _ = some (.int .u8 s.toNat) by first | assumption | go_simp); have q3 := (hx1.cells (g) (i * 3) (by first | omega | (simp <;> omega))).trans (show _ = some (.slice ap5 p5.length cp5) by first | assumption | go_simp); have q4 := (hx1.cells (g) (i * 3 + 1) (by first | omega | (simp <;> omega))).trans (show _ = some (.int .i64 d5) by first | assumption | go_simp); have q5 := (hx1.cells (g) (i * 3 + 2) (by first | omega | (simp <;> omega))).trans (show _ = some (.int .u8 s5.toNat) by first | assumption | go_simp); have q6 := (hx1.cells (wr.heap.size) (0) (by first | omega | (simp <;> omega))).trans (show _ = some (.slice ap p.length cp) by first | assumption | go_simp); have q7 := (hx1.cells (wr.heap.size) (1) (by first | omega | (simp <;> omega))).trans (show _ = some (.int .i64 d) by first | assumption | go_simp); have q8 := (hx1.cells (wr.heap.size) (2) (by first | omega | (simp <;> omega))).trans (show _ = some (.int .u8 s.toNat) by first | assumption | go_simp); have qf0 := (hx1.frz (g) (i * 3) (by first | omega | (simp <;> omega))).trans (show _ = false by first | assumption | go_simp); have qf1 := (hx1.frz (g) (i * 3 + 1) (by first | omega | (simp <;> omega))).trans (show _ = false by first | assumption | go_simp); have qf2 := (hx1.frz (g) (i * 3 + 2) (by first | omega | (simp <;> omega))).trans (show _ = false by first | assumption | go_simp); have hx1 : Ext wr w1 := (by repeat (first | (with_reducible exact ext_refl _) | (with_reducible assumption) | (with_reducible refine ext_drew ?_) | (with_reducible refine ext_drewN ?_ _) | (with_reducible refine ext_alloc ?_ _) | (with_reducible refine ext_set ?_ (by first | omega | (simp <;> omega)) _) | (with_reducible refine ext_trans ?_ (by with_reducible assumption))))))
          go_roundw
          case rel => exact ⟨i + 1, j + 1, q.set i ((p, d), s), by omega, by go_num, by go_num, HN, Lib.hid (osl_set3 gAt (osl_ext gAt HQ.out hx1) (by omega) (rat_of (HPP.out _ hx1) HIC.out)), (by have hx0 := HX.out; exact (by repeat (first | (with_reducible exact ext_refl _) | (with_reducible assumption) | (with_reducible refine ext_drew ?_) | (with_reducible refine ext_drewN ?_ _) | (with_reducible refine ext_alloc ?_ _) | (with_reducible refine ext_set ?_ (by first | omega | (simp <;> omega)) _) | (with_reducible refine ext_trans ?_ (by with_reducible assumption)))))⟩
          case measure => simp [intOf]; omega
      · obtain rfl : j = l.length := by omega
        obtain ⟨g, _, _, _, _, _, rfl, hbg, hgs, _⟩ := oat_all HQ.out (i := i) (by omega)
        obtain ⟨R, hcl, hcut⟩ := osl_cut HQ.out (i := i) (by omega) HJ.out HZ0.out
        rw [hql] at hcl
        have hcl1 := hcl wr rfl
        have hcl2 := hcl wr.drew rfl
        have HCU := Lib.hid hcut
        have ii0 : (0 : Int) ≤ (i : Int) := Int.natCast_nonneg i
        have ii1 : (i : Int) ≤ (l.length : Int) := by exact_mod_cast (show i ≤ l.length by omega)
        have ii2 : (i : Int) ≤ (c0 : Int) := by exact_mod_cast (show i ≤ c0 by omega)
        have hic : i ≤ c0 := by omega
        have hil : i ≤ l.length := by omega
        have hnc : ¬ c0 = i := by omega
        have HF := Lib.hid (show q.take i = takeA l ms by have := HG.out.2.2.1; rwa [List.take_of_length_le (Nat.le_refl _)] at this)
        clear hcl hcut
        go_wp2_with fail
        go_ret
        exact ⟨_, rfl, by rw [← HF.out]; exact HCU.out _ rfl, ext_row HX.out hbg⟩
end Go.Proofs.Ytghfmgndddjofaa
