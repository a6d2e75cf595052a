/- slices.Insert, of one atom. -/
import Derived.Test.YtiladkinndgeaaaQ20aeae9040
import Derived.Lib.Overlaps
import Derived.Lib.AppendZeros
import Derived.Lib.AppendZerosOnto
import Derived.Laws.CopyRow
import Derived.Laws.Externs
import Derived.Deep.RegionLaw
import Derived.Test.YtiladkinndgeaaaQ53c916c439
set_option linter.unusedVariables false
set_option linter.unusedSimpArgs false
namespace Go.Proofs.Ytiladkinndgeaaa
open Go Go.RowKit Go.BigFrame Cp

section
variable {P : Program}
theorem wp_copyR (w : World) {o : Oper} {a : Act} {K : Act → World → Prop} {Q : Exit → Act → World → Prop} (d s : Operand) (t t' : TypeId)
    (ho : o.op = .call { callee := .builtin .copy, args := #[d, s], argTypes := #[t, t'] }) (v u : Value) (hd : a.eval d = v) (hs : a.eval s = u) {v' : Value} {w' : World}
    (hr : (Builtin.copy_ #[t, t'] o.type #[v, u]).run P w = .ok v' w') (h : K (a.put o.dst v') w') : o.wp P a w K Q := by
  unfold Oper.wp execOp
  simp only [ho, resolve, invoke, builtin, Sem.run_bind, Sem.run_pure, Result.andThen_ok, List.map_toArray, List.map_cons, List.map_nil, hd, hs, hr]
  exact h
theorem wpList_copyR (w : World) {ops : Array Oper} {rest : List Oper} {o : Oper} {a : Act} {Q : Exit → Act → World → Prop} (hgd : o.guard = none) (d s : Operand) (t t' : TypeId)
    (ho : o.op = .call { callee := .builtin .copy, args := #[d, s], argTypes := #[t, t'] }) (v u : Value) (hd : a.eval d = v) (hs : a.eval s = u) {v' : Value} {w' : World}
    (hr : (Builtin.copy_ #[t, t'] o.type #[v, u]).run P w = .ok v' w') (h : wpList P ops Q rest (a.put o.dst v') w') : wpList P ops Q (o :: rest) a w :=
  wpList_plain hgd fun _ hK => wp_copyR w d s t t' ho v u hd hs hr (hK _ _ h)
theorem step_copyR {ops : Array Oper} {o : Oper} {a : Act} {w : World} {K : Act → World → Prop} {Q : Exit → Act → World → Prop} {E : Prop}
    (hg : o.guard = none) (d s : Operand) (t t' : TypeId) (ho : o.op = .call { callee := .builtin .copy, args := #[d, s], argTypes := #[t, t'] })
    (v u : Value) (hd : a.eval d = v) (hs : a.eval s = u) {v' : Value} {w' : World} (hr : (Builtin.copy_ #[t, t'] o.type #[v, u]).run P w = .ok v' w') (hK : K (a.put o.dst v') w') :
    if Region.wanted o (yielded ops a.tmps) = true then Oper.wp P o a w K Q else E := by
  have hw : Region.wanted o (yielded ops a.tmps) = true := by simp [Region.wanted, hg]
  rw [if_pos hw]
  exact wp_copyR w d s t t' ho v u hd hs hr hK
theorem run_copyN (w : World) (dT sT ty elem : TypeId) (sz g o dLen dCap : Nat) (a : Addr) (sLen sCap : Nat) (cur : Array Value) (t : TypeId) (cs : List Value)
    (hu : P.underlying dT = some (.slice elem)) (hs : (P.info? elem).map (·.size) = some sz)
    (hg : w.heap[g]? = some (.cells cur t (0, 0))) (hn : cs.length = Nat.min sLen dLen * sz)
    (hsrc : ∀ j v, cs[j]? = some v → w.cell? (a.add j) = some v) (hfit : o + cs.length ≤ cur.size) (h1 : ∀ v ∈ cs, v.oneCell' = true) :
    (Builtin.copy_ #[dT, sT] ty #[.slice (some ⟨g, o, none⟩) dLen dCap, .slice (some a) sLen sCap]).run P w =
      .ok (goInt (Nat.min sLen dLen)) (w.setRow g (cur.toList.take o ++ cs ++ cur.toList.drop (o + cs.length)).toArray) := by
  have hl := run_loadCells_list (P := P) w a cs hsrc
  have hst := run_storeCells_at P g o t cs 0 cur w hg (by simpa using hfit) h1
  cases hq : P.info? elem with
  | none => simp [hq] at hs
  | some i =>
    have hi : i.size = sz := by simpa [hq] using hs
    simp [Builtin.copy_, run_underlying hu, Builtin.lenOf, Builtin.firstCells, sizeOf, typeInfo, hq, hi, ← hn, hl, hst]
end
theorem row_shift {A ys : List Value} {p q r : Nat} (hr : r = p + 3) (hy : ys.length = 3) (h1 : p ≤ q) (h2 : q + 3 ≤ A.length) :
    ((A.take r ++ (A.take q).drop p ++ A.drop (r + ((A.take q).drop p).length)).take p ++ ys ++ (A.take r ++ (A.take q).drop p ++ A.drop (r + ((A.take q).drop p).length)).drop (p + 3)).take (q + 3) = (A.take q).take p ++ ys ++ (A.take q).drop p := by
  subst hr
  have e1 : (A.take (p + 3) ++ (A.take q).drop p ++ A.drop (p + 3 + ((A.take q).drop p).length)).take p = A.take p := by
    rw [List.append_assoc, List.take_append_of_le_length (by rw [List.length_take]; omega), List.take_take]; congr 1; omega
  have e2 : (A.take (p + 3) ++ (A.take q).drop p ++ A.drop (p + 3 + ((A.take q).drop p).length)).drop (p + 3) = (A.take q).drop p ++ A.drop (p + 3 + ((A.take q).drop p).length) := by
    rw [List.append_assoc]; exact List.drop_left' (by rw [List.length_take]; omega)
  have e3 : (A.take q).take p = A.take p := by rw [List.take_take]; congr 1; omega
  rw [e1, e2, e3, ← List.append_assoc]
  exact List.take_left' (by simp only [List.length_append, List.length_take, List.length_drop, hy]; omega)
theorem row_grow {A ys zs : List Value} {p r k : Nat} (hr : r = p + 3) (hy : ys.length = 3) (hk : k = r + zs.length) (h2 : p + 3 + zs.length ≤ A.length) :
    ((A.take p ++ ys ++ A.drop (p + ys.length)).take r ++ zs ++ (A.take p ++ ys ++ A.drop (p + ys.length)).drop (r + zs.length)).take k = A.take p ++ ys ++ zs := by
  subst hr hk
  have e1 : (A.take p ++ ys ++ A.drop (p + ys.length)).take (p + 3) = A.take p ++ ys := List.take_left' (by rw [List.length_append, List.length_take]; omega)
  rw [e1]
  exact List.take_left' (by simp only [List.length_append, List.length_take, hy]; omega)
theorem row_size {A ys : List Value} {p : Nat} (h : p + ys.length ≤ A.length) : (A.take p ++ ys ++ A.drop (p + ys.length)).length = A.length := by
  simp only [List.length_append, List.length_take, List.length_drop]; omega
theorem cell_row {w : World} {g : Nat} {cur : Array Value} {t : TypeId} (h : w.heap[g]? = some (.cells cur t (0, 0))) {j : Nat} {v : Value} (hv : cur.toList[j]? = some v) : w.cell? ⟨g, j, none⟩ = some v := by
  simpa [World.cell?, h] using hv
theorem alloc_new' (w : World) (o : Obj) : (w.alloc o).heap[w.heap.size]? = some o := heap_alloc_new w o
theorem alloc_old' (w : World) (o : Obj) {r : Nat} (h : r < w.heap.size) : (w.alloc o).heap[r]? = w.heap[r]? := by
  first | exact heap_alloc_old w o h | exact heap_alloc_old w o r h
theorem add_lit' (g o j : Nat) : (⟨g, o, none⟩ : Addr).add j = ⟨g, o + j, none⟩ := by
  unfold Addr.add; split <;> simp_all
theorem min3 {n i : Nat} (hi : i < n) : ((n - i) * 3 = Nat.min (n + 1 - i) (n - i) * 3) := by
  congr 1
  simp only [Nat.min_def]; split <;> omega
theorem zs_len {A : List Value} {i n : Nat} (hi : i < n) (h : n * 3 ≤ A.length) : ((A.take (n * 3)).drop (i * 3)).length = (n - i) * 3 := by
  rw [List.length_drop, List.length_take]; omega
end Go.Proofs.Ytiladkinndgeaaa
/- slices.Insert, of one atom, into atoms of one's own. -/
namespace Go.Proofs.Ytiladkinndgeaaa
open Go Go.RowKit Go.BigFrame Cp

section
variable {α : Type} {R : Rd α} {sz : Nat} {F : Nat → Prop} {w : World} {xs : List Value} {l : List α}
theorem chunks_take (h : Chunks R sz F w xs l) {i : Nat} (hi : i ≤ l.length) : Chunks R sz F w (xs.take (i * sz)) (l.take i) := by
  have hle : i * sz ≤ xs.length := by rw [h.1]; exact Nat.mul_le_mul_right _ hi
  refine ⟨by rw [List.length_take, List.length_take, Nat.min_eq_left hle, Nat.min_eq_left hi], fun j x hj => ?_⟩
  rw [List.getElem?_take] at hj
  split at hj
  · rename_i hlt
    have h2 := h.2 j x hj
    have h3 : (j + 1) * sz ≤ i * sz := Nat.mul_le_mul_right _ hlt
    rw [Nat.add_mul, Nat.one_mul] at h3
    rw [List.drop_take, List.take_take, Nat.min_eq_left (by omega)]
    exact h2
  · cases hj
theorem chunks_drop (h : Chunks R sz F w xs l) {i : Nat} (hi : i ≤ l.length) : Chunks R sz F w (xs.drop (i * sz)) (l.drop i) := by
  refine ⟨by rw [List.length_drop, List.length_drop, h.1, Nat.mul_sub_right_distrib], fun j x hj => ?_⟩
  rw [List.getElem?_drop] at hj
  have h2 := h.2 (i + j) x hj
  rw [List.drop_drop, ← Nat.add_mul]
  exact h2
end
theorem at_row {F : Nat → Prop} {w : World} {xs : List Value} : ∀ {l : List At}, Chunks RAt 3 F w xs l → ∀ u ∈ xs, u.oneCell' = true
  | [], h, u, hu => by
    have : xs = [] := List.length_eq_zero_iff.1 (by simpa using h.1)
    subst this; simp at hu
  | x :: l, h, u, hu => by
    obtain ⟨h1, h2⟩ := chunks_tail h
    rw [← List.take_append_drop 3 xs] at hu
    rcases List.mem_append.1 hu with hu | hu
    · exact one_at _ _ _ _ h1 u hu
    · exact at_row h2 u hu
end Go.Proofs.Ytiladkinndgeaaa
/- Rows of one's own: an element written, elements cleared. -/
namespace Go.Proofs.Ytiladkinndgeaaa
open Go Go.RowKit Go.BigFrame Cp

section
variable {P : Program}
theorem zeros_len (z : Array Value) (n : Nat) : (Builtin.zeroCells z n).toList.length = n * z.size := by simp [Builtin.zeroCells]
theorem zeros_mem {z : Array Value} {n : Nat} {v : Value} (h : v ∈ (Builtin.zeroCells z n).toList) : v ∈ z.toList := by
  simp only [Builtin.zeroCells, Array.toList_map, List.mem_map] at h
  obtain ⟨i, hi, rfl⟩ := h
  have hi' : i < n * z.size := by simpa using hi
  have hz : 0 < z.size := by
    rcases Nat.eq_zero_or_pos z.size with h0 | h0
    · rw [h0] at hi'; omega
    · exact h0
  rw [getElem!_pos z (i % z.size) (Nat.mod_lt _ hz)]
  simp
/-- clear, of elements of any size: the row's head stays -/
theorem run_clearN (w : World) (dT ty elem : TypeId) (z : Value) (g o n cap : Nat) (cur : Array Value) (t : TypeId) (hu : P.underlying dT = some (.slice elem)) (hv : ∀ w, (zeroValue elem).run P w = .ok z w) (hn : 0 < n)
    (hg : w.heap[g]? = some (.cells cur t (0, 0))) (hfit : o + n * z.cells.size ≤ cur.size) (h1 : ∀ v ∈ z.cells.toList, v.oneCell' = true) :
    (Builtin.clear_ #[dT] ty #[.slice (some ⟨g, o, none⟩) n cap]).run P w = .ok (.tuple #[]) (w.setRow g (cur.toList.take o ++ (Builtin.zeroCells z.cells n).toList ++ cur.toList.drop (o + (Builtin.zeroCells z.cells n).toList.length)).toArray) := by
  obtain ⟨zs, hz⟩ : ∃ zs, zs = (Builtin.zeroCells z.cells n).toList := ⟨_, rfl⟩
  have hl : zs.length = n * z.cells.size := by rw [hz, zeros_len]
  have hst := run_storeCells_at P g o t zs 0 cur w hg (by simpa [hl] using hfit) (fun v hv => h1 v (zeros_mem (by rw [← hz]; exact hv)))
  obtain ⟨m, rfl⟩ : ∃ m, n = m + 1 := ⟨n - 1, by omega⟩
  rw [← hz]
  simp [Builtin.clear_, run_underlying hu, hv, ← hz, hst]
end
theorem osl_set3 {α : Type} {R : Rd α} (g : Cp.Good R) {e base : TypeId} {F : Nat → Prop} {w : World} {b n c : Nat} {l : List α} (h : OSl R 3 e base F w (.slice (some ⟨b, 0, none⟩) n c) l) {i : Nat} (hi : i < l.length) {x : α} {u0 u1 u2 : Value} (hx : R (fun k => F k ∧ k ≠ b) w [u0, u1, u2] x) :
    OSl R 3 e base F (((w.setCell ⟨b, i * 3, none⟩ u0).setCell ⟨b, i * 3 + 1, none⟩ u1).setCell ⟨b, i * 3 + 2, none⟩ u2) (.slice (some ⟨b, 0, none⟩) n c) (l.set i x) := by
  have hn : n = l.length := (osl_len h).1
  subst hn
  obtain ⟨xs, h1, h2⟩ := h
  have s0 := World.ownsRow.stored h1 (i * 3) u0
  have s1 := World.ownsRow.stored s0.1 (i * 3 + 1) u1
  have s2 := World.ownsRow.stored s1.1 (i * 3 + 2) u2
  have hxl : xs.length = l.length * 3 := h2.1
  have hkeep : Keeps (fun k => F k ∧ some k ≠ (Value.slice (some ⟨b, 0, none⟩) l.length c).ownBlock) w (((w.setCell ⟨b, i * 3, none⟩ u0).setCell ⟨b, i * 3 + 1, none⟩ u1).setCell ⟨b, i * 3 + 2, none⟩ u2) :=
    keeps_set (keeps_set (keeps_set keeps_refl (fun _ hp => hp.2 rfl) _) (fun _ hp => hp.2 rfl) _) (fun _ hp => hp.2 rfl) _
  have hx' : R (fun k => F k ∧ some k ≠ (Value.slice (some ⟨b, 0, none⟩) l.length c).ownBlock) w [u0, u1, u2] x := g.more (fun k hk _ => ⟨hk.1, fun e => hk.2 (by simpa [Value.ownBlock] using e)⟩) hx
  refine ⟨((xs.set (i * 3) u0).set (i * 3 + 1) u1).set (i * 3 + 2) u2, by simpa using s2.1, by simp [h2.1], fun k y hk => ?_⟩
  by_cases hki : k = i
  · subst hki
    rw [List.getElem?_set_self hi] at hk
    have : x = y := by simpa using hk
    subst this
    have e : ((((xs.set (k * 3) u0).set (k * 3 + 1) u1).set (k * 3 + 2) u2).drop (k * 3)).take 3 = [u0, u1, u2] := by
      apply List.ext_getElem?
      intro m
      match m with
      | 0 =>
        rw [List.getElem?_take_of_lt (by omega), List.getElem?_drop]
        show (((xs.set (k * 3) u0).set (k * 3 + 1) u1).set (k * 3 + 2) u2)[k * 3]? = some u0
        rw [List.getElem?_set_ne (by omega), List.getElem?_set_ne (by omega), List.getElem?_set_self (by omega)]
      | 1 => rw [List.getElem?_take_of_lt (by omega), List.getElem?_drop, List.getElem?_set_ne (by omega), List.getElem?_set_self (by simp; omega)]; rfl
      | 2 => rw [List.getElem?_take_of_lt (by omega), List.getElem?_drop, List.getElem?_set_self (by simp; omega)]; rfl
      | m + 3 => rw [List.getElem?_eq_none (by simp; omega), List.getElem?_eq_none (by simp)]
    rw [e]
    exact g.keep hkeep hx'
  · rw [List.getElem?_set_ne (Ne.symm hki)] at hk
    have h3 := g.keep hkeep (h2.2 k y hk)
    have e : ((((xs.set (i * 3) u0).set (i * 3 + 1) u1).set (i * 3 + 2) u2).drop (k * 3)).take 3 = (xs.drop (k * 3)).take 3 := by
      apply List.ext_getElem?
      intro m
      by_cases hm : m < 3
      · rw [List.getElem?_take_of_lt hm, List.getElem?_take_of_lt hm, List.getElem?_drop, List.getElem?_drop, List.getElem?_set_ne (by omega), List.getElem?_set_ne (by omega), List.getElem?_set_ne (by omega)]
      · rw [List.getElem?_eq_none (by simp; omega), List.getElem?_eq_none (by simp; omega)]
    rw [e]; exact h3
theorem oat_all {e base : Nat} {F : Nat → Prop} {w : World} {a : Option Addr} {n c : Nat} {q : List At} (h : OSl RAt 3 e base F w (.slice a n c) q) {i : Nat} (hi : i < q.length) :
    ∃ g p d s ap cp, a = some ⟨g, 0, none⟩ ∧ base ≤ g ∧ g < w.heap.size ∧ q[i]? = some ((p, d), s) ∧ RSl RStp 2 (fun k => F k ∧ k ≠ g) w (.slice ap p.length cp) p ∧ I64 d ∧
      w.cell? ⟨g, i * 3, none⟩ = some (.slice ap p.length cp) ∧ w.cell? ⟨g, i * 3 + 1, none⟩ = some (.int .i64 d) ∧ w.cell? ⟨g, i * 3 + 2, none⟩ = some (.int .u8 (s : UInt8).toNat) ∧ ∀ o, w.frozen? ⟨g, o, none⟩ = false := by
  obtain ⟨g, x, cs, _, ha, hb, hs, hx, _, hr, ⟨v, rfl, h1, h2⟩, hf⟩ := osl_at h hi
  obtain ⟨ap, np, cp, rfl⟩ := h1.slice
  obtain ⟨rfl, _, _⟩ := h1.len
  obtain ⟨⟨p, d⟩, s⟩ := x
  exact ⟨g, p, d, s, ap, cp, ha, hb, hs, hx, h1, h2, by simpa using hr 0 _ rfl, by simpa [Nat.add_assoc] using hr 1 _ rfl, by simpa [Nat.add_assoc] using hr 2 _ rfl, hf⟩
theorem ext_row {a w : World} (h : Ext a w) {g : Nat} {R : Array Value} (hg : a.heap.size ≤ g) : Ext a (w.setRow g R) := by
  have h' : Below a.heap.size a w := h
  exact ⟨h'.os, h'.tape, h'.output, Nat.le_trans h'.size (by simp), fun k hk => (setRow_other w g k R (by omega)).trans (h'.block k hk)⟩
end Go.Proofs.Ytiladkinndgeaaa
/- slices.Delete, of one atom. -/
namespace Go.Proofs.Ytiladkinndgeaaa
open Go Go.RowKit Go.BigFrame Cp

section
variable {P : Program}
theorem step_appR {ops : Array Oper} {o : Oper} {a : Act} {w : World} {K : Act → World → Prop} {Q : Exit → Act → World → Prop} {E : Prop}
    (hg : o.guard = none) (d s : Operand) (t t' : TypeId) (ho : o.op = .call { callee := .builtin .append, args := #[d, s], argTypes := #[t, t'] })
    (v u : Value) (hd : a.eval d = v) (hs : a.eval s = u) {v' : Value} {w' : World} (hr : (Builtin.append_ #[t, t'] o.type #[v, u]).run P w = .ok v' w') (hK : K (a.put o.dst v') w') :
    if Region.wanted o (yielded ops a.tmps) = true then Oper.wp P o a w K Q else E := by
  have hw : Region.wanted o (yielded ops a.tmps) = true := by simp [Region.wanted, hg]
  rw [if_pos hw]
  unfold Oper.wp execOp
  simp only [ho, resolve, invoke, builtin, Sem.run_bind, Sem.run_pure, Result.andThen_ok, List.map_toArray, List.map_cons, List.map_nil, hd, hs, hr]
  exact hK
/-- append where there is room: the row, written -/
theorem run_appR (w : World) (t ty e : TypeId) (i : TypeInfo) (sz g o n cap : Nat) (cur : Array Value) (te : TypeId) (a : Addr) (m c : Nat) (news : List Value) (ht : P.underlying t = some (.slice e)) (hi : P.info? e = some i) (hs : i.size = sz)
    (hl : news.length = m * sz) (hnews : ∀ j u, news[j]? = some u → w.cell? (a.add j) = some u) (h1 : ∀ u ∈ news, u.oneCell' = true) (hroom : n + m ≤ cap) (hg : w.heap[g]? = some (.cells cur te (0, 0))) (hfit : o + n * sz + news.length ≤ cur.size) :
    (Builtin.append_ #[t, t] ty #[.slice (some ⟨g, o, none⟩) n cap, .slice (some a) m c]).run P w = .ok (.slice (some ⟨g, o, none⟩) (n + m) cap) (w.setRow g (cur.toList.take (o + n * sz) ++ news ++ cur.toList.drop (o + n * sz + news.length)).toArray) := by
  subst hs
  have hfc := run_firstCells_some (P := P) w i.size m a m c news hl hnews
  have hst := run_storeCells_at P g (o + n * i.size) te news 0 cur w hg (by simpa using hfit) h1
  simp only [Nat.add_zero] at hst
  simp [Builtin.append_, run_underlying ht, sizeOf, typeInfo, hi, Builtin.lenOf, hroom, hfc, Addr.add_lit, hst]
end
end Go.Proofs.Ytiladkinndgeaaa
/- slices.Insert, of one mark, into marks of one's own. -/
namespace Go.Proofs.Ytiladkinndgeaaa
open Go Go.RowKit Go.BigFrame Cp

theorem row_shiftG {A ys : List Value} {p q r : Nat} (hr : r = p + 2) (hy : ys.length = 2) (h1 : p ≤ q) (h2 : q + 2 ≤ A.length) :
    ((A.take r ++ (A.take q).drop p ++ A.drop (r + ((A.take q).drop p).length)).take p ++ ys ++ (A.take r ++ (A.take q).drop p ++ A.drop (r + ((A.take q).drop p).length)).drop (p + 2)).take (q + 2) = (A.take q).take p ++ ys ++ (A.take q).drop p := by
  subst hr
  have e1 : (A.take (p + 2) ++ (A.take q).drop p ++ A.drop (p + 2 + ((A.take q).drop p).length)).take p = A.take p := by
    rw [List.append_assoc, List.take_append_of_le_length (by rw [List.length_take]; omega), List.take_take]; congr 1; omega
  have e2 : (A.take (p + 2) ++ (A.take q).drop p ++ A.drop (p + 2 + ((A.take q).drop p).length)).drop (p + 2) = (A.take q).drop p ++ A.drop (p + 2 + ((A.take q).drop p).length) := by
    rw [List.append_assoc]; exact List.drop_left' (by rw [List.length_take]; omega)
  have e3 : (A.take q).take p = A.take p := by rw [List.take_take]; congr 1; omega
  rw [e1, e2, e3, ← List.append_assoc]
  exact List.take_left' (by simp only [List.length_append, List.length_take, List.length_drop, hy]; omega)
theorem row_growG {A ys zs : List Value} {p r k : Nat} (hr : r = p + 2) (hy : ys.length = 2) (hk : k = r + zs.length) (h2 : p + 2 + zs.length ≤ A.length) :
    ((A.take p ++ ys ++ A.drop (p + ys.length)).take r ++ zs ++ (A.take p ++ ys ++ A.drop (p + ys.length)).drop (r + zs.length)).take k = A.take p ++ ys ++ zs := by
  subst hr hk
  have e1 : (A.take p ++ ys ++ A.drop (p + ys.length)).take (p + 2) = A.take p ++ ys := List.take_left' (by rw [List.length_append, List.length_take]; omega)
  rw [e1]
  exact List.take_left' (by simp only [List.length_append, List.length_take, hy]; omega)
theorem c_info_sizeG : (Try.prog.info? 56).map (·.size) = some 2 := by kernel_rfl
theorem min3G {n i : Nat} (hi : i < n) : ((n - i) * 2 = Nat.min (n + 1 - i) (n - i) * 2) := by
  congr 1
  simp only [Nat.min_def]; split <;> omega
theorem zs_lenG {A : List Value} {i n : Nat} (hi : i < n) (h : n * 2 ≤ A.length) : ((A.take (n * 2)).drop (i * 2)).length = (n - i) * 2 := by
  rw [List.length_drop, List.length_take]; omega
theorem at_rowG {F : Nat → Prop} {w : World} {xs : List Value} : ∀ {l : List Mk}, Chunks RMk 2 F w xs l → ∀ u ∈ xs, u.oneCell' = true
  | [], h, u, hu => by
    have : xs = [] := List.length_eq_zero_iff.1 (by simpa using h.1)
    subst this; simp at hu
  | x :: l, h, u, hu => by
    obtain ⟨h1, h2⟩ := chunks_tail h
    rw [← List.take_append_drop 2 xs] at hu
    rcases List.mem_append.1 hu with hu | hu
    · exact one_mk _ _ _ _ h1 u hu
    · exact at_rowG h2 u hu
end Go.Proofs.Ytiladkinndgeaaa
/- Who does deeds: the state that is worked on, as it lies; what is gone of it. -/
namespace Go.Proofs.Ytiladkinndgeaaa
open Go Go.RowKit Go.BigFrame Cp

/-- the blocks of Z are as they were -/
structure Kept (Z : Nat → Prop) (w w' : World) : Prop where
  os : w'.os = w.os
  tape : w'.tape = w.tape
  output : w'.output = w.output
  size : w.heap.size ≤ w'.heap.size
  block : ∀ k, Z k → k < w.heap.size → w'.heap[k]? = w.heap[k]?
section
variable {Z : Nat → Prop} {a w w' : World}
theorem kept_refl : Kept Z w w := ⟨rfl, rfl, rfl, Nat.le_refl _, fun _ _ _ => rfl⟩
theorem kept_trans {b c : World} (h : Kept Z a b) (k : Kept Z b c) : Kept Z a c :=
  ⟨k.os.trans h.os, k.tape.trans h.tape, k.output.trans h.output, Nat.le_trans h.size k.size, fun i hi hl => (k.block i hi (Nat.lt_of_lt_of_le hl h.size)).trans (h.block i hi hl)⟩
theorem kept_ext (h : Ext w w') : Kept Z w w' := ⟨Below.os h, Below.tape h, Below.output h, Below.size h, fun k _ hk => Below.block h k hk⟩
theorem kept_grown {row : Option Nat} (h : w.grownBy w' row) (hr : ∀ k, Z k → some k ≠ row) : Kept Z w w' := ⟨h.os, h.tape, h.output, h.size, fun k hk hl => h.block k hl (hr k hk)⟩
theorem kept_set (h : Kept Z a w) {p : Addr} (hp : ¬ Z p.block) (u : Value) : Kept Z a (w.setCell p u) :=
  ⟨by simpa [World.setCell] using h.os, by simpa [World.setCell] using h.tape, by simpa [World.setCell] using h.output, by simpa [World.setCell] using h.size,
   fun k hk hl => (Below.heap_setCell w p u k (fun e => by subst e; exact hp hk)).trans (h.block k hk hl)⟩
theorem Kept.toExt (h : Kept Z w w') (k : Ext a w) (hz : ∀ j, j < a.heap.size → Z j) : Ext a w' := by
  have k' : Below a.heap.size a w := k
  exact (⟨h.os.trans k'.os, h.tape.trans k'.tape, h.output.trans k'.output, Nat.le_trans k'.size h.size, fun j hj => (h.block j (hz j hj) (Nat.lt_of_lt_of_le hj k'.size)).trans (k'.block j hj)⟩ : Below a.heap.size a w')
theorem Kept.cell (h : Kept Z w w') {b : Nat} (hz : Z b) (hb : b < w.heap.size) (o : Nat) : w'.cell? ⟨b, o, none⟩ = w.cell? ⟨b, o, none⟩ := World.cell?_of_block (a := ⟨b, o, none⟩) (h.block b hz hb)
theorem Kept.frz (h : Kept Z w w') {b : Nat} (hz : Z b) (hb : b < w.heap.size) (o : Nat) : w'.frozen? ⟨b, o, none⟩ = w.frozen? ⟨b, o, none⟩ := World.frozen?_of_block (a := ⟨b, o, none⟩) (h.block b hz hb)
theorem Kept.keeps (h : Kept Z w w') : Keeps Z w w' := ⟨h.size, fun k hk hl => h.block k hk hl⟩
theorem Kept.less {Y : Nat → Prop} (h : Kept Z w w') (hy : ∀ k, Y k → Z k) : Kept Y w w' := ⟨h.os, h.tape, h.output, h.size, fun k hk hl => h.block k (hy k hk) hl⟩
end
section
variable {Z : Nat → Prop} {B b : Nat} {s : St} {w w' : World} {v u : Value}
end
end Go.Proofs.Ytiladkinndgeaaa
/- Who does deeds: a mark is taken. -/
namespace Go.Proofs.Ytiladkinndgeaaa
open Go Go.RowKit Go.BigFrame Cp

theorem takeA_at {l : List At} {m : Mk} (hs : SortedA l) (h : hasM l m = true) : takeA l [m] = l.take (placeA l m) ++ l.drop (placeA l m + 1) ∧ placeA l m < l.length := by
  induction l with
  | nil => simp [hasM] at h
  | cons x r ih =>
    rw [hasM_cons] at h
    rw [placeA_cons]
    by_cases h0 : ordM x.1 m = 0
    · have hr : ∀ b ∈ r, ordM b.1 m = 1 := fun b hb => ordM_up (sortedA_head hs b hb) (by omega)
      rw [(place_none hr).1, if_neg (by omega)]
      refine ⟨?_, by simp⟩
      have e1 : takeA (x :: r) [m] = takeA r [m] := by
        unfold takeA
        rw [List.filter_cons, if_neg]
        have : ordM m x.1 = 0 := by rw [ordM_zero] at h0 ⊢; exact h0.symm
        simp [hasG, this]
      have e2 : takeA r [m] = r := by
        unfold takeA
        rw [List.filter_eq_self]
        intro b hb
        have h1 := hr b hb
        have h2 := ordM_anti b.1 m
        have : ¬ ordM m b.1 = 0 := by omega
        simp [hasG, this]
      rw [e1, e2]; simp
    · rw [decide_eq_false h0, Bool.false_or] at h
      obtain ⟨i1, i2⟩ := ih (sortedA_tail hs) h
      have hlt : ordM x.1 m < 0 := by
        by_cases h1 : ordM x.1 m = 1
        · have := (place_none (r := r) (m := m) (fun b hb => ordM_up (sortedA_head hs b hb) (by omega))).2
          rw [this] at h; cases h
        · rcases ordM_range x.1 m with h2 | h2 | h2 <;> omega
      rw [if_pos hlt]
      have e1 : takeA (x :: r) [m] = x :: takeA r [m] := by
        unfold takeA
        rw [List.filter_cons, if_pos]
        have : ¬ ordM m x.1 = 0 := by rw [ordM_zero] at h0 ⊢; exact fun e => h0 e.symm
        simp [hasG, this]
      rw [e1, i1]
      exact ⟨by simp, by simp; omega⟩
theorem takeA_noM {l : List At} {m : Mk} (h : hasM l m = false) : takeA l [m] = l := by
  unfold takeA
  rw [List.filter_eq_self]
  intro b hb
  have h1 := List.any_eq_false.1 h b hb
  have : ¬ ordM m b.1 = 0 := by
    have h2 : ¬ ordM b.1 m = 0 := by simpa using h1
    rw [ordM_zero] at h2 ⊢; exact fun e => h2 e.symm
  simp [hasG, this]
theorem alloc_newd (w : World) (o : Obj) : (w.alloc o).drew.heap[w.heap.size]? = some o := heap_alloc_new w o
theorem alloc_newe (w : World) (o : Obj) : (w.drew.alloc o).heap[w.heap.size]? = some o := heap_alloc_new w.drew o
section
variable {Z : Nat → Prop} {B b : Nat} {s : St} {w w4 : World} {v u v4 u4 : Value}
end
end Go.Proofs.Ytiladkinndgeaaa
/- Atoms that are put among atoms, by the program. -/
namespace Go.Proofs.Ytiladkinndgeaaa
open Go Go.RowKit Go.BigFrame Cp

theorem oat_at {e base : Nat} {F : Nat → Prop} {w : World} {a : Option Addr} {n c : Nat} {q : List At} (h : OSl RAt 3 e base F w (.slice a n c) q) {i : Nat} (hi : i < q.length) :
    ∃ g p d s ap cp, a = some ⟨g, 0, none⟩ ∧ base ≤ g ∧ g < w.heap.size ∧ q[i]? = some ((p, d), s) ∧
      w.cell? ⟨g, i * 3, none⟩ = some (.slice ap p.length cp) ∧ w.cell? ⟨g, i * 3 + 1, none⟩ = some (.int .i64 d) ∧ w.cell? ⟨g, i * 3 + 2, none⟩ = some (.int .u8 (s : UInt8).toNat) ∧ w.frozen? ⟨g, i * 3 + 2, none⟩ = false := by
  obtain ⟨g, x, cs, _, ha, hb, hs, hx, _, hr, ⟨v, rfl, h1, h2⟩, hf⟩ := osl_at h hi
  obtain ⟨ap, np, cp, rfl⟩ := h1.slice
  obtain ⟨rfl, _, _⟩ := h1.len
  obtain ⟨⟨p, d⟩, s⟩ := x
  exact ⟨g, p, d, s, ap, cp, ha, hb, hs, hx, by simpa using hr 0 _ rfl, by simpa [Nat.add_assoc] using hr 1 _ rfl, by simpa [Nat.add_assoc] using hr 2 _ rfl, hf _⟩
theorem put_sign {e base : Nat} {F : Nat → Prop} {w : World} {g n c : Nat} {q : List At} (h : OSl RAt 3 e base F w (.slice (some ⟨g, 0, none⟩) n c) q) {i : Nat} (hi : i < q.length) {m : Mk} {s t : UInt8} (he : q[i]? = some (m, s)) :
    OSl RAt 3 e base F (w.setCell ⟨g, i * 3 + 2, none⟩ (.int .u8 t.toNat)) (.slice (some ⟨g, 0, none⟩) n c) (q.set i (m, t)) := by
  refine osl_put gAt h hi (by omega) (fun G W cs y hy hr => ?_)
  rw [he] at hy
  have : (m, s) = y := by simpa using hy
  subst this
  obtain ⟨v, rfl, h1, h2⟩ := hr
  exact ⟨v, rfl, h1, h2⟩
theorem mn_val (x y : UInt8) : (if y.toNat < x.toNat then ((y.toNat : Nat) : Int) else ((x.toNat : Nat) : Int)) = (((mnS x y).toNat : Nat) : Int) := by
  unfold mnS
  by_cases h : y < x
  · rw [if_pos h, if_pos (UInt8.lt_iff_toNat_lt.1 h)]
  · rw [if_neg h, if_neg (fun h2 => h (UInt8.lt_iff_toNat_lt.2 h2))]
end Go.Proofs.Ytiladkinndgeaaa
