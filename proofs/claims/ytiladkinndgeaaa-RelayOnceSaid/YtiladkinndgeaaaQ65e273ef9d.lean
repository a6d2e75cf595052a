/- Slices that the call itself makes: what is appended to them, and how they read. (The words Reads and run_append_any are the guide's, to be copied.) -/
import Derived.Test.YtiladkinndgeaaaQf69f251b3b
import Derived.Maps.AppendAt
import Derived.Deep.AppendLies
import Derived.RegionTactic
import Derived.OwnWalk
import Derived.Laws.OwnMore
import Derived.Deep.RegionLaw
set_option linter.unusedVariables false
set_option linter.unusedSimpArgs false
namespace Cp
open Go Go.RowKit

def Reads (w : World) (B size : Nat) (A : Option Addr) (n : Nat) (xs : List Value) : Prop :=
  xs.length = n * size ∧ (0 < n → ∃ ad, A = some ad ∧ ad.block < B ∧ ∀ j u, xs[j]? = some u → w.cell? (ad.add j) = some u)

section
variable {P : Program} (w : World)
theorem run_append_of_nil (base : Nat) (t ty e : TypeId) (i : TypeInfo) (size : Nat) (ht : P.underlying t = some (.slice e)) (hi : P.info? e = some i)
    (v : Value) (n : Nat) (xs : List Value) (hown : w.ownsRow base e size v n xs) (c : Nat) : (Builtin.append_ #[t, t] ty #[v, .slice none 0 c]).run P w = .ok v w := by
  rcases hown.2 with ⟨rfl, rfl⟩ | ⟨g, cap, cur, rfl, _, _, hnc, _⟩
  · simp [Builtin.append_, run_underlying ht, Go.sizeOf, typeInfo, hi, Builtin.lenOf, Builtin.firstCells]
  · simp [Builtin.append_, run_underlying ht, Go.sizeOf, typeInfo, hi, Builtin.lenOf, Builtin.firstCells, hnc, storeCells]
theorem run_append_any (base : Nat) (t ty e : TypeId) (i : TypeInfo) (z : Value) (size bytes : Nat) (ht : P.underlying t = some (.slice e)) (hi : P.info? e = some i) (hz : i.zero = some z)
    (hsize : i.size = size) (hby : i.bytes = bytes) (hzs : z.cells.size = size) (hsz : 0 < size)
    (v : Value) (n : Nat) (xs : List Value) (hown : w.ownsRow base e size v n xs)
    (B : Nat) (A : Option Addr) (m c : Nat) (news : List Value) (hr : Reads w B size A m news) (h1 : ∀ u ∈ news, u.oneCell' = true)
    (h63 : n + m ≤ maxLen) (hbytes : (n + m) * bytes ≤ 140737488355328) (hbase : base ≤ w.heap.size) :
    ∃ v' w', (Builtin.append_ #[t, t] ty #[v, .slice A m c]).run P w = .ok v' w' ∧ w'.ownsRow base e size v' (n + m) (xs ++ news) ∧ w.grownBy w' v.ownBlock ∧
      (v'.ownBlock = v.ownBlock ∨ v'.ownBlock = some w.heap.size) := by
  rcases A with _ | ad
  · have hm : m = 0 := by
      rcases Nat.eq_zero_or_pos m with h0 | h0
      · exact h0
      · obtain ⟨ad, h, _⟩ := hr.2 h0
        cases h
    subst hm
    have hn : news = [] := List.eq_nil_of_length_eq_zero (by simpa using hr.1)
    subst hn
    exact ⟨v, w, run_append_of_nil w base t ty e i size ht hi v n xs hown c, by simpa using hown, World.grownBy.refl w _, .inl rfl⟩
  · have hcells : ∀ j u, news[j]? = some u → w.cell? (ad.add j) = some u := by
      intro j u hu
      rcases Nat.eq_zero_or_pos m with h0 | h0
      · subst h0
        have hn : news = [] := List.eq_nil_of_length_eq_zero (by simpa using hr.1)
        subst hn
        simp at hu
      · obtain ⟨ad', h, _, hc⟩ := hr.2 h0
        injection h with h
        subst h
        exact hc j u hu
    obtain ⟨v', w', hrun, h2, h3, _, h5⟩ := run_append_own_at (P := P) w base t ty e i z size bytes ht hi hz hsize hby hzs hsz v n xs hown ad m c news hr.1 hcells h1 h63 hbytes hbase
    exact ⟨v', w', hrun, h2, h3, h5⟩
end

/-- cells, sz for each element, read as a list -/
def Chunks {α : Type} (R : Rd α) (sz : Nat) (F : Nat → Prop) (w : World) (xs : List Value) (l : List α) : Prop :=
  xs.length = l.length * sz ∧ ∀ i x, l[i]? = some x → R F w ((xs.drop (i * sz)).take sz) x

theorem chunks_nil {α : Type} {R : Rd α} {sz F w} : Chunks R sz F w [] ([] : List α) := ⟨by simp, by simp⟩
theorem chunks_keep {α : Type} {R : Rd α} (g : Good R) {sz F w w' xs} {l : List α} (hk : Keeps F w w') (h : Chunks R sz F w xs l) : Chunks R sz F w' xs l := ⟨h.1, fun i x hi => g.keep hk (h.2 i x hi)⟩
theorem chunks_more {α : Type} {R : Rd α} (g : Good R) {sz F G w xs} {l : List α} (hg : ∀ k, F k → k < w.heap.size → G k) (h : Chunks R sz F w xs l) : Chunks R sz G w xs l := ⟨h.1, fun i x hi => g.more hg (h.2 i x hi)⟩
theorem chunks_app {α : Type} {R : Rd α} {sz F w xs ys} {l m : List α} (h : Chunks R sz F w xs l) (k : Chunks R sz F w ys m) : Chunks R sz F w (xs ++ ys) (l ++ m) := by
  refine ⟨by rw [List.length_append, h.1, k.1, List.length_append, Nat.add_mul], fun i x hi => ?_⟩
  by_cases hlt : i < l.length
  · rw [List.getElem?_append_left hlt] at hi
    have h1 := h.2 i x hi
    have hb : i * sz + sz ≤ xs.length := by
      rw [h.1, ← Nat.succ_mul]; exact Nat.mul_le_mul_right _ hlt
    rw [List.drop_append_of_le_length (by omega), List.take_append_of_le_length (by simp; omega)]
    exact h1
  · rw [List.getElem?_append_right (by omega)] at hi
    have h1 := k.2 _ x hi
    have e : i * sz = xs.length + (i - l.length) * sz := by
      rw [h.1, ← Nat.add_mul]; congr 1; omega
    rw [e, List.drop_append, List.drop_eq_nil_of_le (by omega), List.nil_append]
    simpa using h1
theorem chunks_one {α : Type} {R : Rd α} {sz F w cs} {x : α} (hl : cs.length = sz) (h : R F w cs x) : Chunks R sz F w cs [x] := by
  refine ⟨by simp [hl], fun i y hi => ?_⟩
  cases i with
  | zero =>
    have : x = y := by simpa using hi
    subst this
    simpa [List.take_of_length_le (Nat.le_of_eq hl)] using h
  | succ i => simp at hi
/-- a slice's cells -/
theorem chunks_of_rsl {α : Type} {R : Rd α} {sz F w A n c} {l : List α} (h : RSl R sz F w (.slice A n c) l) :
    ∃ xs, Chunks R sz F w xs l ∧ Reads w w.heap.size sz A n xs ∧ (0 < n → ∃ b o, A = some ⟨b, o, none⟩ ∧ F b ∧ b < w.heap.size ∧ w.rangeAt b o xs) := by
  obtain ⟨a', cap', e, hc1, hc2, h3⟩ := h
  injection e with e1 e2 e3
  subst e1; subst e2; subst e3
  by_cases hne : l = []
  · subst hne
    exact ⟨[], chunks_nil, ⟨by simp, by simp⟩, by simp⟩
  obtain ⟨b, o, rfl, hF, hl, hx⟩ := h3 hne
  have key : ∀ (m : Nat), m ≤ l.length → ∃ xs, Chunks R sz F w xs (l.take m) ∧ w.rangeAt b o xs := by
    intro m
    induction m with
    | zero => intro _; exact ⟨[], by simpa using chunks_nil, by intro j v hv; simp at hv⟩
    | succ m ih =>
      intro hm
      obtain ⟨xs, c1, c2⟩ := ih (by omega)
      obtain ⟨cs, d1, d2, d3⟩ := hx m l[m] (List.getElem?_eq_getElem (by omega))
      refine ⟨xs ++ cs, ?_, fun j v hv => ?_⟩
      · rw [List.take_succ_eq_append_getElem (by omega)]
        exact chunks_app c1 (chunks_one d1 d3)
      · have hxl : xs.length = m * sz := by rw [c1.1, List.length_take]; congr 1; omega
        by_cases hj : j < xs.length
        · rw [List.getElem?_append_left hj] at hv; exact c2 j v hv
        · rw [List.getElem?_append_right (by omega)] at hv
          have := d2 _ v hv
          rw [hxl] at this hj
          rwa [show o + m * sz + (j - m * sz) = o + j by omega] at this
  obtain ⟨xs, c1, c2⟩ := key l.length (Nat.le_refl _)
  rw [List.take_of_length_le (Nat.le_refl _)] at c1
  refine ⟨xs, c1, ⟨c1.1, fun _ => ⟨_, rfl, hl, fun j u hu => ?_⟩⟩, fun _ => ⟨b, o, rfl, hF, hl, c2⟩⟩
  rw [Addr.add_mid]; exact c2 j u hu

theorem rsl_of_range {α : Type} {R : Rd α} {sz F w b o c xs} {l : List α} (hr : w.rangeAt b o xs) (hc : Chunks R sz F w xs l) (hF : F b) (hb : b < w.heap.size) (h1 : l.length ≤ c) (h2 : c ≤ maxLen) :
    RSl R sz F w (.slice (some ⟨b, o, none⟩) l.length c) l := by
  refine ⟨_, c, rfl, h1, h2, fun _ => ⟨b, o, rfl, hF, hb, fun i x hi => ⟨(xs.drop (i * sz)).take sz, ?_, fun j v hv => ?_, hc.2 i x hi⟩⟩⟩
  · have hi' : i < l.length := (List.getElem?_eq_some_iff.1 hi).1
    have : i * sz + sz ≤ xs.length := by rw [hc.1, ← Nat.succ_mul]; exact Nat.mul_le_mul_right _ hi'
    simp; omega
  · by_cases hj : j < sz
    · rw [List.getElem?_take_of_lt hj, List.getElem?_drop] at hv
      have := hr _ v hv
      rwa [← Nat.add_assoc] at this
    · rw [List.getElem?_eq_none (by simp; omega)] at hv; cases hv

/-- a slice of the call's own: its blocks are from base on, its elements do not lie in its own row -/
def OSl {α : Type} (R : Rd α) (sz : Nat) (e : TypeId) (base : Nat) (F : Nat → Prop) (w : World) (v : Value) (l : List α) : Prop :=
  ∃ xs, w.ownsRow base e sz v l.length xs ∧ Chunks R sz (fun k => F k ∧ some k ≠ v.ownBlock) w xs l

theorem osl_nil {α : Type} {R : Rd α} {sz e base F w} : OSl R sz e base F w (.slice none 0 0) ([] : List α) := ⟨[], ⟨by simp, .inl ⟨rfl, rfl⟩⟩, chunks_nil⟩
theorem own_lt {w : World} {base e sz n : Nat} {v : Value} {xs : List Value} (h : w.ownsRow base e sz v n xs) : ∀ k, v.ownBlock = some k → base ≤ k ∧ k < w.heap.size := by
  intro k hk
  rcases h.2 with ⟨rfl, _⟩ | ⟨g, cap, cur, rfl, hg, hh, _⟩
  · simp [Value.ownBlock] at hk
  · have : g = k := by simpa [Value.ownBlock] using hk
    subst this
    refine ⟨hg, ?_⟩
    rcases Nat.lt_or_ge g w.heap.size with h | h
    · exact h
    · rw [Array.getElem?_eq_none h] at hh; cases hh
theorem osl_lt {α : Type} {R : Rd α} {sz e base F w v} {l : List α} (h : OSl R sz e base F w v l) : ∀ k, v.ownBlock = some k → base ≤ k ∧ k < w.heap.size := by
  obtain ⟨xs, h1, _⟩ := h
  exact own_lt h1
theorem osl_rsl {α : Type} {R : Rd α} (g : Good R) {sz e base F w v} {l : List α} (h : OSl R sz e base F w v l) {G : Nat → Prop} (hG : ∀ k, F k → k < w.heap.size → G k) (hb : ∀ k, base ≤ k → G k) : RSl R sz G w v l := by
  obtain ⟨xs, h1, h2⟩ := h
  have h2' := chunks_more g (G := G) (fun k hk hl => hG k hk.1 hl) h2
  rcases h1.2 with ⟨rfl, h0⟩ | ⟨b, cap, cur, rfl, hg, hh, hn, hcap, hsz, htk⟩
  · have : l = [] := List.eq_nil_of_length_eq_zero h0
    subst this
    exact RSl.nil_ (Nat.zero_le _)
  · have hlt := (own_lt h1 b rfl).2
    refine rsl_of_range (xs := xs) (fun j v hv => ?_) h2' (hb b hg) hlt hn hcap
    rw [Nat.zero_add, cell_of_row w b j cur e (0, 0) hh]
    rw [← htk] at hv
    have hj : j < l.length * sz := by
      rcases Nat.lt_or_ge j (l.length * sz) with h | h
      · exact h
      · rw [List.getElem?_eq_none (by simp; omega)] at hv; cases hv
    rw [List.getElem?_take_of_lt hj] at hv
    simpa using hv
theorem osl_keep {α : Type} {R : Rd α} (g : Good R) {sz e base F w w' v} {l : List α} (h : OSl R sz e base F w v l) (hk : Keeps (fun k => F k ∨ some k = v.ownBlock) w w') : OSl R sz e base F w' v l := by
  obtain ⟨xs, h1, h2⟩ := h
  refine ⟨xs, ⟨h1.1, ?_⟩, chunks_keep g (hk.weaken (fun k _ hk => .inl hk.1)) h2⟩
  rcases h1.2 with h0 | ⟨b, cap, cur, rfl, hg, hh, hn, hcap, hsz, htk⟩
  · exact .inl h0
  · exact .inr ⟨b, cap, cur, rfl, hg, (hk.block b (.inr rfl) (own_lt h1 b rfl).2).trans hh, hn, hcap, hsz, htk⟩
theorem osl_ext {α : Type} {R : Rd α} (g : Good R) {sz e base F w w' v} {l : List α} (h : OSl R sz e base F w v l) (hk : Ext w w') : OSl R sz e base F w' v l := osl_keep g h (.of_below hk)

/-- THE LAW: append of a whole slice, whatever it is -/
theorem wp_appAll {α : Type} {P : Program} {o : Oper} {a : Act} {K : Act → World → Prop} {Q : Exit → Act → World → Prop} {w : World} {R : Rd α} (g : Good R) (s x : Operand) (t : TypeId)
    (ho : o.op = .call { callee := .builtin .append, args := #[s, x], argTypes := #[t, t] })
    (base : Nat) (e : TypeId) (i : TypeInfo) (z : Value) (sz bytes : Nat) (ht : P.underlying t = some (.slice e)) (hi : P.info? e = some i) (hz : i.zero = some z)
    (hsize : i.size = sz) (hby : i.bytes = bytes) (hzs : z.cells.size = sz) (hsz : 0 < sz)
    {F G : Nat → Prop} (v : Value) (l : List α) (hs : a.eval s = v) (hown : OSl R sz e base F w v l)
    (u : Value) (m : List α) (hx : a.eval x = u) (hm : RSl R sz G w u m) (h1 : ∀ F w cs y, R F w cs y → ∀ u ∈ cs, u.oneCell' = true) (hG : ∀ k, G k → k < w.heap.size → F k ∧ some k ≠ v.ownBlock)
    (h63 : l.length + m.length ≤ maxLen) (hbytes : (l.length + m.length) * bytes ≤ 140737488355328) (hbase : base ≤ w.heap.size)
    (h : ∀ v' w', OSl R sz e base F w' v' (l ++ m) → w.grownBy w' v.ownBlock → (v'.ownBlock = v.ownBlock ∨ v'.ownBlock = some w.heap.size) → K (a.put o.dst v') w') : o.wp P a w K Q := by
  obtain ⟨xs, o1, o2⟩ := hown
  obtain ⟨A, n, c, rfl⟩ := hm.slice
  obtain ⟨rfl, _, _⟩ := hm.len
  obtain ⟨ys, c1, c2, _⟩ := chunks_of_rsl hm
  have hone : ∀ u ∈ ys, u.oneCell' = true := by
    intro u hu
    obtain ⟨j, hj, rfl⟩ := List.getElem_of_mem hu
    have hjl : j / sz < m.length := by
      rw [c1.1] at hj
      exact Nat.div_lt_of_lt_mul (by rwa [Nat.mul_comm])
    have := h1 _ _ _ _ (c1.2 (j / sz) _ (List.getElem?_eq_getElem hjl)) ys[j]
    apply this
    have hd : j = j / sz * sz + j % sz := by rw [Nat.mul_comm]; exact (Nat.div_add_mod j sz).symm
    have hlt : j % sz < sz := Nat.mod_lt _ hsz
    rw [List.mem_iff_getElem?]
    refine ⟨j % sz, ?_⟩
    rw [List.getElem?_take_of_lt hlt, List.getElem?_drop, ← hd, List.getElem?_eq_getElem hj]
  obtain ⟨v', w', hrun, h2, h3, h4⟩ := run_append_any (P := P) w base t o.type e i z sz bytes ht hi hz hsize hby hzs hsz v l.length xs o1 w.heap.size A m.length c ys c2 hone h63 hbytes hbase
  unfold Oper.wp execOp
  simp only [ho, resolve, invoke, builtin, Sem.run_bind, Sem.run_pure, Result.andThen_ok, List.map_toArray, List.map_cons, List.map_nil, hs, hx, hrun]
  refine h v' w' ?_ h3 h4
  have hk : Keeps (fun k => F k ∧ some k ≠ v.ownBlock) w w' := ⟨h3.size, fun k hk hl => h3.block k hl hk.2⟩
  refine ⟨xs ++ ys, by simpa using h2, ?_⟩
  have hc : Chunks R sz (fun k => F k ∧ some k ≠ v.ownBlock) w (xs ++ ys) (l ++ m) := chunks_app o2 (chunks_more g hG c1)
  rcases h4 with hat | hat
  · rw [hat]; exact chunks_keep g hk hc
  · rw [hat]
    have hc' := chunks_more g (G := fun k => (F k ∧ some k ≠ v.ownBlock) ∧ k < w.heap.size) (fun k hk hl => ⟨hk, hl⟩) hc
    have hc2 := chunks_keep g (hk.weaken (G := fun k => (F k ∧ some k ≠ v.ownBlock) ∧ k < w.heap.size) (fun k _ h => h.1)) hc'
    exact chunks_more g (fun k hk _ => ⟨hk.1.1, fun e => by injection e with e; omega⟩) hc2

theorem wpList_appAll {α : Type} {P : Program} {ops : Array Oper} {rest : List Oper} {o : Oper} {a : Act} {Q : Exit → Act → World → Prop} {w : World} {R : Rd α} (g : Good R) (hgd : o.guard = none) (s x : Operand) (t : TypeId)
    (ho : o.op = .call { callee := .builtin .append, args := #[s, x], argTypes := #[t, t] })
    (base : Nat) (e : TypeId) (i : TypeInfo) (z : Value) (sz bytes : Nat) (ht : P.underlying t = some (.slice e)) (hi : P.info? e = some i) (hz : i.zero = some z)
    (hsize : i.size = sz) (hby : i.bytes = bytes) (hzs : z.cells.size = sz) (hsz : 0 < sz)
    {F G : Nat → Prop} (v : Value) (l : List α) (hs : a.eval s = v) (hown : OSl R sz e base F w v l)
    (u : Value) (m : List α) (hx : a.eval x = u) (hm : RSl R sz G w u m) (h1 : ∀ F w cs y, R F w cs y → ∀ u ∈ cs, u.oneCell' = true) (hG : ∀ k, G k → k < w.heap.size → F k ∧ some k ≠ v.ownBlock)
    (h63 : l.length + m.length ≤ maxLen) (hbytes : (l.length + m.length) * bytes ≤ 140737488355328) (hbase : base ≤ w.heap.size)
    (h : ∀ v' w', OSl R sz e base F w' v' (l ++ m) → w.grownBy w' v.ownBlock → (v'.ownBlock = v.ownBlock ∨ v'.ownBlock = some w.heap.size) → wpList P ops Q rest (a.put o.dst v') w') : wpList P ops Q (o :: rest) a w :=
  wpList_plain hgd fun _ hK => wp_appAll g s x t ho base e i z sz bytes ht hi hz hsize hby hzs hsz v l hs hown u m hx hm h1 hG h63 hbytes hbase fun v' w' h2 h3 h4 => hK _ _ (h v' w' h2 h3 h4)
theorem step_appAll {α : Type} {P : Program} {ops : Array Oper} {o : Oper} {a : Act} {K : Act → World → Prop} {Q : Exit → Act → World → Prop} {E : Prop} {w : World} {R : Rd α} (g : Good R) (hgd : o.guard = none) (s x : Operand) (t : TypeId)
    (ho : o.op = .call { callee := .builtin .append, args := #[s, x], argTypes := #[t, t] })
    (base : Nat) (e : TypeId) (i : TypeInfo) (z : Value) (sz bytes : Nat) (ht : P.underlying t = some (.slice e)) (hi : P.info? e = some i) (hz : i.zero = some z)
    (hsize : i.size = sz) (hby : i.bytes = bytes) (hzs : z.cells.size = sz) (hsz : 0 < sz)
    {F G : Nat → Prop} (v : Value) (l : List α) (hs : a.eval s = v) (hown : OSl R sz e base F w v l)
    (u : Value) (m : List α) (hx : a.eval x = u) (hm : RSl R sz G w u m) (h1 : ∀ F w cs y, R F w cs y → ∀ u ∈ cs, u.oneCell' = true) (hG : ∀ k, G k → k < w.heap.size → F k ∧ some k ≠ v.ownBlock)
    (h63 : l.length + m.length ≤ maxLen) (hbytes : (l.length + m.length) * bytes ≤ 140737488355328) (hbase : base ≤ w.heap.size)
    (h : ∀ v' w', OSl R sz e base F w' v' (l ++ m) → w.grownBy w' v.ownBlock → (v'.ownBlock = v.ownBlock ∨ v'.ownBlock = some w.heap.size) → K (a.put o.dst v') w') : if Region.wanted o (yielded ops a.tmps) = true then Oper.wp P o a w K Q else E := by
  have hw : Region.wanted o (yielded ops a.tmps) = true := by simp [Region.wanted, hgd]
  rw [if_pos hw]
  exact wp_appAll g s x t ho base e i z sz bytes ht hi hz hsize hby hzs hsz v l hs hown u m hx hm h1 hG h63 hbytes hbase h

/-- elements that hold no memory of their own -/
theorem osl_any {α : Type} {R : Rd α} (hR : ∀ F G w cs x, R F w cs x → R G w cs x) {sz e base F G w v} {l : List α} (h : OSl R sz e base F w v l) : OSl R sz e base G w v l := by
  obtain ⟨xs, h1, h2⟩ := h
  exact ⟨xs, h1, h2.1, fun i x hi => hR _ _ _ _ _ (h2.2 i x hi)⟩
theorem leaf_stp : ∀ F G w cs (x : Stp), RStp F w cs x → RStp G w cs x := fun _ _ _ _ _ h => h
theorem leaf_int : ∀ F G w cs (x : Int), RInt F w cs x → RInt G w cs x := fun _ _ _ _ _ h => h
theorem osl_new {α : Type} {R : Rd α} {sz e : Nat} {F : Nat → Prop} {w : World} : OSl R sz e w.heap.size F (w.alloc (.cells #[] e)) (.slice (some ⟨w.heap.size, 0, none⟩) 0 0) ([] : List α) :=
  ⟨[], ⟨by simp, .inr ⟨w.heap.size, 0, #[], rfl, Nat.le_refl _, heap_alloc_new w _, Nat.le_refl _, Nat.zero_le _, by simp, by simp⟩⟩, chunks_nil⟩
theorem osl_newAt {α : Type} {R : Rd α} {sz e base : Nat} {F : Nat → Prop} {w : World} {g : Nat} (hg : w.heap.size = g) (hb : base ≤ g) : OSl R sz e base F (w.alloc (.cells #[] e)) (.slice (some ⟨g, 0, none⟩) 0 0) ([] : List α) := by
  subst hg
  exact ⟨[], ⟨by simp, .inr ⟨w.heap.size, 0, #[], rfl, hb, heap_alloc_new w _, Nat.le_refl _, Nat.zero_le _, by simp, by simp⟩⟩, chunks_nil⟩
theorem ne_own {k n : Nat} (h : k < n) {l c : Nat} : some k ≠ (Value.slice (some ⟨n, 0, none⟩) l c).ownBlock := fun e => by
  have : k = n := by simpa [Value.ownBlock] using e
  omega
theorem own_eq {k n : Nat} {l c : Nat} (h : (Value.slice (some ⟨n, 0, none⟩) l c).ownBlock = some k) : n = k := by simpa [Value.ownBlock] using h
theorem one_stp : ∀ F w cs (y : Stp), RStp F w cs y → ∀ u ∈ cs, u.oneCell' = true := by
  rintro F w cs y ⟨rfl, _, _⟩ u hu
  simp at hu
  rcases hu with rfl | rfl <;> rfl
theorem one_int : ∀ F w cs (y : Int), RInt F w cs y → ∀ u ∈ cs, u.oneCell' = true := by
  rintro F w cs y ⟨rfl, _⟩ u hu
  simp at hu
  subst hu; rfl
theorem RSl.one {α : Type} {R : Rd α} {sz F w v} {l : List α} (h : RSl R sz F w v l) : v.oneCell' = true := by
  obtain ⟨a, c, rfl, _⟩ := h; rfl
/-- an element of a slice of the call's own -/
theorem osl_at {α : Type} {R : Rd α} {sz e base F w a n c} {l : List α} (h : OSl R sz e base F w (.slice a n c) l) {i : Nat} (hi : i < l.length) :
    ∃ g x cs, n = l.length ∧ a = some ⟨g, 0, none⟩ ∧ base ≤ g ∧ g < w.heap.size ∧ l[i]? = some x ∧ cs.length = sz ∧ w.rangeAt g (i * sz) cs ∧ R (fun k => F k ∧ k ≠ g) w cs x ∧ ∀ o, w.frozen? ⟨g, o, none⟩ = false := by
  obtain ⟨xs, h1, h2⟩ := h
  have hx := h2.2 i l[i] (List.getElem?_eq_getElem hi)
  have hb : i * sz + sz ≤ xs.length := by rw [h2.1, ← Nat.succ_mul]; exact Nat.mul_le_mul_right _ hi
  rcases h1.2 with ⟨_, h0⟩ | ⟨g, cap, cur, hv, hg, hh, hn, hcap, hsz, htk⟩
  · omega
  · injection hv with e1 e2 e3
    subst e1; subst e2; subst e3
    refine ⟨g, l[i], (xs.drop (i * sz)).take sz, rfl, rfl, hg, (own_lt h1 g rfl).2, List.getElem?_eq_getElem hi, by simp; omega, fun j v hv => ?_, ?_, fun o => World.ownsRow.frozenAt h1 o⟩
    · have hj : j < sz := by
        rcases Nat.lt_or_ge j sz with h | h
        · exact h
        · rw [List.getElem?_eq_none (by simp; omega)] at hv; cases hv
      rw [List.getElem?_take_of_lt hj, List.getElem?_drop] at hv
      rw [World.ownsRow.cellAt h1 _ (by rw [← h2.1]; omega)]
      exact hv
    · have : (fun k => F k ∧ some k ≠ (Value.slice (some ⟨g, 0, none⟩) l.length c).ownBlock) = (fun k => F k ∧ k ≠ g) := by
        funext k; simp [Value.ownBlock]
      rw [this] at hx
      exact hx
theorem osl_len {α : Type} {R : Rd α} {sz e base F w a n c} {l : List α} (h : OSl R sz e base F w (.slice a n c) l) : n = l.length ∧ n ≤ c ∧ c ≤ maxLen := by
  obtain ⟨xs, h1, _⟩ := h
  rcases h1.2 with ⟨hv, h0⟩ | ⟨g, cap, cur, hv, hg, hh, hn, hcap, hsz, htk⟩
  · injection hv with e1 e2 e3
    exact ⟨by omega, by omega, by subst e3; exact Nat.zero_le _⟩
  · injection hv with e1 e2 e3
    subst e2; subst e3
    exact ⟨rfl, hn, hcap⟩
theorem osl_slice {α : Type} {R : Rd α} {sz e base F w v} {l : List α} (h : OSl R sz e base F w v l) : ∃ a n c, v = .slice a n c := by
  obtain ⟨xs, h1, _⟩ := h
  rcases h1.2 with ⟨rfl, _⟩ | ⟨g, cap, cur, rfl, _⟩
  · exact ⟨_, _, _, rfl⟩
  · exact ⟨_, _, _, rfl⟩
/-- one cell of one element is written -/
theorem osl_put {α : Type} {R : Rd α} (g : Good R) {sz e base F w b n c} {l : List α} (h : OSl R sz e base F w (.slice (some ⟨b, 0, none⟩) n c) l) {i j : Nat} (hi : i < l.length) (hj : j < sz) {u : Value} {x : α}
    (hu : ∀ G W cs y, l[i]? = some y → R G W cs y → R G W (cs.set j u) x) : OSl R sz e base F (w.setCell ⟨b, i * sz + j, none⟩ u) (.slice (some ⟨b, 0, none⟩) n c) (l.set i x) := by
  obtain ⟨xs, h1, h2⟩ := h
  have hn : n = l.length := by
    rcases h1.2 with ⟨hv, _⟩ | ⟨g, cap, cur, hv, _⟩
    · injection hv with e1; cases e1
    · injection hv
  subst hn
  have hst := World.ownsRow.stored h1 (i * sz + j) u
  refine ⟨xs.set (i * sz + j) u, by simpa using hst.1, by simp [h2.1], fun k y hk => ?_⟩
  have hkeep : Keeps (fun k => F k ∧ some k ≠ (Value.slice (some ⟨b, 0, none⟩) l.length c).ownBlock) w (w.setCell ⟨b, i * sz + j, none⟩ u) :=
    keeps_set keeps_refl (fun _ hp => hp.2 rfl) _
  by_cases hki : k = i
  · subst hki
    rw [List.getElem?_set_self hi] at hk
    have : x = y := by simpa using hk
    subst this
    have h3 := hu _ _ _ _ (List.getElem?_eq_getElem hi) (g.keep hkeep (h2.2 k l[k] (List.getElem?_eq_getElem hi)))
    have e : ((xs.set (k * sz + j) u).drop (k * sz)).take sz = ((xs.drop (k * sz)).take sz).set j u := by
      rw [List.drop_set, if_neg (by omega), List.take_set]
      congr 1; omega
    rw [e]; exact h3
  · rw [List.getElem?_set_ne (Ne.symm hki)] at hk
    have h3 := g.keep hkeep (h2.2 k y hk)
    have e : ((xs.set (i * sz + j) u).drop (k * sz)).take sz = (xs.drop (k * sz)).take sz := by
      apply List.ext_getElem?
      intro m
      by_cases hm : m < sz
      · rw [List.getElem?_take_of_lt hm, List.getElem?_take_of_lt hm, List.getElem?_drop, List.getElem?_drop, List.getElem?_set_ne]
        intro hc
        rcases Nat.lt_or_gt_of_ne hki with h | h
        · have : (k + 1) * sz ≤ i * sz := Nat.mul_le_mul_right _ h
          rw [Nat.succ_mul] at this; omega
        · have : (i + 1) * sz ≤ k * sz := Nat.mul_le_mul_right _ h
          rw [Nat.succ_mul] at this; omega
      · rw [List.getElem?_eq_none (by simp; omega), List.getElem?_eq_none (by simp; omega)]
    rw [e]; exact h3

theorem osl_base {α : Type} {R : Rd α} {sz e base base' F w v} {l : List α} (hb : base' ≤ base) (h : OSl R sz e base F w v l) : OSl R sz e base' F w v l := by
  obtain ⟨xs, h1, h2⟩ := h
  refine ⟨xs, ⟨h1.1, ?_⟩, h2⟩
  rcases h1.2 with h0 | ⟨b, cap, cur, rfl, hg, hh⟩
  · exact .inl h0
  · exact .inr ⟨b, cap, cur, rfl, Nat.le_trans hb hg, hh⟩
theorem osl_leaf {α : Type} {R : Rd α} (hR : ∀ F G w w' cs x, R F w cs x → R G w' cs x) {sz e base base' F G w w' v} {l : List α} (h : OSl R sz e base F w v l) (hk : Keeps (fun k => base ≤ k) w w') (hb : base' ≤ base) : OSl R sz e base' G w' v l := by
  obtain ⟨xs, h1, h2⟩ := h
  refine ⟨xs, ⟨h1.1, ?_⟩, h2.1, fun i x hi => hR _ _ _ _ _ _ (h2.2 i x hi)⟩
  rcases h1.2 with h0 | ⟨b, cap, cur, rfl, hg, hh, hr⟩
  · exact .inl h0
  · exact .inr ⟨b, cap, cur, rfl, Nat.le_trans hb hg, (hk.block b hg (own_lt h1 b rfl).2).trans hh, hr⟩
theorem lf_stp : ∀ F G w w' cs (x : Stp), RStp F w cs x → RStp G w' cs x := fun _ _ _ _ _ _ h => h
/-- a mark whose path is the call's own -/
def OMk (e : TypeId) (base : Nat) (w : World) (cs : List Value) (m : Mk) : Prop := ∃ v, cs = [v, .int .i64 m.2] ∧ OSl RStp 2 e base (fun _ => True) w v m.1 ∧ I64 m.2
theorem omk_mk {e base w cs m} (h : OMk e base w cs m) : RMk (fun k => base ≤ k) w cs m := by
  obtain ⟨v, rfl, h1, h2⟩ := h
  exact ⟨v, rfl, osl_rsl gStp (osl_any leaf_stp (G := fun k => base ≤ k) h1) (fun k hk _ => hk) (fun k hk => hk), h2⟩

/-- a call of which a new row is grown leaves what lay there alone -/
theorem ext_grow {a w w' : World} {v : Value} (h : Ext a w) (hg : w.grownBy w' v.ownBlock) (hr : ∀ k, v.ownBlock = some k → a.heap.size ≤ k) : Ext a w' := ext_grown h hg hr
end Cp
/- Marks made anew: Clone, Own, After, AfterOf. -/
namespace Go.Proofs.Ytiladkinndgeaaa
open Go Go.RowKit Cp

theorem info_step : (Try.prog.info? 96).map (fun i => (i.zero, i.size, i.bytes)) = some (some (.agg #[.int .i64 0, .int .i64 0]), 2, 16) := by kernel_rfl
/-- a slice of steps, all in new memory -/
def IsSteps (l : List Stp) (w : World) (e : Ending) (w' : World) : Prop := ∃ v, e = .returned v ∧ OSl RStp 2 96 w.heap.size (fun _ => True) w' v l ∧ Ext w w'
/-- a mark, all in new memory -/
def IsMark (m : Mk) (w : World) (e : Ending) (w' : World) : Prop := ∃ cs, e = .returned (.agg cs.toArray) ∧ OMk 96 w.heap.size w' cs m ∧ Ext w w'

set_option maxRecDepth 100000 in
theorem cloneSteps_any {F : Nat → Prop} {w : World} {v : Value} {l : List Stp} (h : RSl RStp 2 F w v l) (hsz : l.length ≤ 8000000000000) :
    Calls Try.prog 83 #[v] w (IsSteps l w) := by
  obtain ⟨a1, n1, c1, rfl⟩ := h.slice
  obtain ⟨rfl, k1, k1'⟩ := h.len
  have hnil := fun (W : World) (a : Option Addr) (n c : Nat) => Lib.run_eql_slice_nil (P := Try.prog) W 54 96 a n c 0 0 Try.underlying54
  obtain ⟨i0, hi, hz0, hz1, hz2⟩ := info_parts info_step
  cases a1 with
  | none =>
    have e0 : l = [] := by
      cases l with
      | nil => rfl
      | cons a r => obtain ⟨b, o, x, cs, e, _⟩ := h.at_ (i := 0) (by simp); cases e
    subst e0
    go_enter Try.func83, Try.ntmps83
    go_wp2_with fail
    all_goals go_ret
    all_goals exact ⟨_, rfl, osl_nil, ext_refl _⟩
  | some ad =>
    have H := Lib.hid (h.more gStp (G := fun k => k < w.heap.size) (fun _ _ hk => hk))
    clear h k1 k1'
    go_enter Try.func83, Try.ntmps83
    go_wp2_with (at_builtin; refine wpList_appAll gStp rfl (.tmp 5) (.tmp 6) 54 rfl w.heap.size 96 i0 _ 2 16 Try.underlying54 hi hz0 hz1 hz2 rfl (by omega) (F := fun k => k < w.heap.size) (G := fun k => k < w.heap.size) _ [] rfl osl_new _ l rfl (H.out.ext gStp (ext_alloc (ext_refl _) _)) one_stp (fun k hk _ => ⟨hk, ne_own hk⟩) (by simp only [maxLen, List.length_nil]; omega) (by simp only [List.length_nil]; omega) (by simp) ?_; intro v1 w1 hown1 hg1 hat1)
    go_ret
    exact ⟨_, rfl, osl_any leaf_stp hown1, ext_grow (ext_alloc (ext_refl _) _) hg1 (fun k hk => Nat.le_of_eq (own_eq hk))⟩

set_option maxRecDepth 100000 in
theorem own_any {F : Nat → Prop} {w : World} {cs : List Value} {m : Mk} (h : RMk F w cs m) (hsz : m.1.length ≤ 8000000000000) :
    Calls Try.prog 78 #[.agg cs.toArray] w (IsMark m w) := by
  obtain ⟨v, rfl, hl, hi64⟩ := h
  obtain ⟨l, c⟩ := m
  simp only at hl hsz ⊢
  have HL := Lib.hid (fun (W : World) (hx : Ext w W) => cloneSteps_any (hl.ext gStp hx) hsz)
  obtain ⟨a1, n1, c1, rfl⟩ := hl.slice
  clear hl
  have HI := Lib.hid hi64
  clear hi64
  go_enter Try.func78, Try.ntmps78
  go_wp2
  go_region_with (go_at_call 83; refine (HL.out _ (ext_drew (ext_alloc (ext_alloc (ext_refl _) _) _))).mono ?_; rintro e w1 ⟨v1, rfl, hv1, hx1⟩; obtain ⟨a3, n3, c3, rfl⟩ := osl_slice hv1; have HV1 := Lib.hid hv1; clear hv1; have z0 := (hx1.cells w.heap.size 0 (by simp <;> omega)).trans (show _ = some (.slice a1 n1 c1) by go_simp); have z1 := (hx1.cells w.heap.size 1 (by simp <;> omega)).trans (show _ = some (.int .i64 c) by go_simp); have z2 := (hx1.cells (w.heap.size + 1) 0 (by simp <;> omega)).trans (show _ = some (.slice none 0 0) by go_simp); have z3 := (hx1.cells (w.heap.size + 1) 1 (by simp <;> omega)).trans (show _ = some (.int .i64 0) by go_simp); have z4 := (hx1.frz (w.heap.size + 1) 0 (by simp <;> omega)).trans (show _ = false by go_simp); have z5 := (hx1.frz (w.heap.size + 1) 1 (by simp <;> omega)).trans (show _ = false by go_simp))
  all_goals go_wp2
  all_goals refine bodyPost_end (v := .agg #[.slice a3 n3 c3, .int .i64 c]) (by simp [results, Try.results78, go_sem, z2, z3]) rfl ⟨[.slice a3 n3 c3, .int .i64 c], rfl, ⟨_, rfl, ?_, HI.out⟩, ?_⟩
  all_goals first
    | exact osl_leaf lf_stp HV1.out (by repeat (first | exact keeps_refl | refine keeps_drew ?_ | refine keeps_alloc ?_ _ | refine keeps_set ?_ (by simp <;> omega) _)) (by simp <;> omega)
    | exact (by repeat (first | exact ext_refl _ | refine ext_drew ?_ | refine ext_drewN ?_ _ | refine ext_alloc ?_ _ | refine ext_set ?_ (by simp <;> omega) _ | refine ext_call ?_ hx1))

end Go.Proofs.Ytiladkinndgeaaa
/- The mark so many behind one. -/
namespace Go.Proofs.Ytiladkinndgeaaa
open Go Go.RowKit Cp

theorem stp_put {l : List Stp} {i : Nat} {x y x' : Int} (h : l[i]? = some (x, y)) (hx : I64 x') :
    ∀ (G : Nat → Prop) (W : World) (cs : List Value) (s : Stp), l[i]? = some s → RStp G W cs s → RStp G W (cs.set 0 (.int .i64 x')) (x', y) := by
  rintro G W cs s hs ⟨rfl, _, iy⟩
  rw [h] at hs
  have : (x, y) = s := by simpa using hs
  subst this
  exact ⟨rfl, hx, iy⟩
theorem i64_small {n : Int} (h1 : -100000 ≤ n) (h2 : n ≤ 100000) : I64 n := by unfold I64; omega
theorem addLast_set {l : List Stp} {x y k : Int} (h : l[l.length - 1]? = some (x, y)) : addLast l k = l.set (l.length - 1) (x + k, y) := by
  have hne : l ≠ [] := by rintro rfl; simp at h
  obtain ⟨q, s, rfl⟩ := snoc_of hne
  rw [addLast_snoc]
  have e : (q ++ [s]).length - 1 = q.length := by simp
  rw [e] at h ⊢
  rw [List.getElem?_append_right (Nat.le_refl _)] at h
  have hs : s = (x, y) := by simpa using h
  subst hs
  rw [List.set_append_right _ _ (Nat.le_refl _)]; simp

set_option maxRecDepth 100000 in
theorem after_any {F : Nat → Prop} {w : World} {cs : List Value} {m : Mk} {k : Int} (h : RMk F w cs m) (hsz : m.1.length ≤ 8000000000000) (hne : m.1 ≠ [])
    (hd : 0 ≤ lastDigit m.1 ∧ lastDigit m.1 ≤ 1000) (hc : 0 ≤ m.2 ∧ m.2 ≤ 20000) (hk : 0 ≤ k ∧ k ≤ 1000) :
    Calls Try.prog 74 #[.agg cs.toArray, .int .i64 k] w (IsMark (afterM m k) w) := by
  have HO := Lib.hid (fun (W : World) (hx : Ext w W) => own_any (gMk.ext h hx) hsz)
  obtain ⟨v, rfl, hl, hi64⟩ := h
  obtain ⟨l, c⟩ := m
  simp only at hl hsz hne hd hc ⊢
  obtain ⟨a1, n1, c1, rfl⟩ := hl.slice
  obtain ⟨rfl, _, _⟩ := hl.len
  clear hl hi64
  have hlt : l.length - 1 < l.length := by
    have := List.length_pos_iff.2 hne
    omega
  obtain ⟨c0, c2⟩ := hc
  obtain ⟨k0, k2⟩ := hk
  have HD := Lib.hid hd
  clear hd
  go_enter Try.func74, Try.ntmps74
  go_wp2_with (go_at_call 78; go_must (refine (HO.out _ (ext_alloc (ext_alloc (ext_refl _) _) _)).mono ?_; rintro e w1 ⟨cs1, rfl, hm1, hx1⟩; obtain ⟨v1, rfl, hv1, _⟩ := hm1; obtain ⟨a3, n3, c3, rfl⟩ := osl_slice hv1; obtain ⟨g3, s3, cs2, rfl, rfl, hg3, hg3', e3, _, hr3, hs3, hf3⟩ := osl_at hv1 hlt; obtain ⟨x3, y3⟩ := s3; obtain ⟨rfl, ix, iy⟩ := hs3; have z6 := hr3 0 _ rfl; have z7 := hr3 1 _ rfl; have z8 := hf3 ((l.length - 1) * 2); simp only [Nat.add_zero] at z6 z7; have hd1 : 0 ≤ x3 := (lastDigit_at e3) ▸ HD.out.1; have hd2 : x3 ≤ 1000 := (lastDigit_at e3) ▸ HD.out.2; have HV1 := Lib.hid hv1; have HE3 := Lib.hid e3; have y0 := (hx1.cells (w.heap.size + 1) 0 (by simp <;> omega)).trans (show _ = some (.slice none 0 0) by go_simp); have y1 := (hx1.cells (w.heap.size + 1) 1 (by simp <;> omega)).trans (show _ = some (.int .i64 0) by go_simp); have y2 := (hx1.frz (w.heap.size + 1) 0 (by simp <;> omega)).trans (show _ = false by go_simp); have y3f := (hx1.frz (w.heap.size + 1) 1 (by simp <;> omega)).trans (show _ = false by go_simp); have hs1 : w.heap.size + 1 < w1.heap.size := (by have := hx1.size; simp at this; omega); have hn1 : ¬ g3 = w.heap.size + 1 := (by simp at hg3; omega); have hn2 : ¬ w.heap.size + 1 = g3 := (by omega); have HX1 := Lib.hid hx1; clear hv1 e3 hr3 hf3 hx1))
  have hg0 : w.heap.size + 1 < g3 := (by simp at hg3; omega)
  refine bodyPost_end (v := .agg #[.slice (some ⟨g3, 0, none⟩) l.length c3, .int .i64 (c + k)]) (by simp [results, Try.results74, go_sem, y0, y1, hs1]) rfl ⟨[.slice (some ⟨g3, 0, none⟩) l.length c3, .int .i64 (c + k)], rfl, ⟨_, rfl, ?_, ?_⟩, ?_⟩
  · show OSl _ _ _ _ _ _ _ (addLast l k)
    rw [addLast_set HE3.out]
    exact osl_leaf lf_stp (osl_put gStp HV1.out hlt (j := 0) (by omega) (stp_put HE3.out (x' := x3 + k) (i64_small (by omega) (by omega)))) (by repeat (first | exact keeps_refl | refine keeps_drew ?_ | refine keeps_alloc ?_ _ | refine keeps_set ?_ (by simp <;> omega) _)) (by simp <;> omega)
  · exact i64_small (by simp only [afterM]; omega) (by simp only [afterM]; omega)
  · exact (by repeat (first | exact ext_refl _ | refine ext_drew ?_ | refine ext_drewN ?_ _ | refine ext_alloc ?_ _ | refine ext_set ?_ (by simp <;> omega) _ | refine ext_call ?_ HX1.out))
end Go.Proofs.Ytiladkinndgeaaa
/- Rows of numbers. -/
namespace Go.Proofs.Ytiladkinndgeaaa
open Go Go.RowKit Go.BigFrame Cp

theorem info_int : (Try.prog.info? 3).map (fun i => (i.zero, i.size, i.bytes)) = some (some (.int .i64 0), 1, 8) := by kernel_rfl
end Go.Proofs.Ytiladkinndgeaaa
/- A mark of one step. -/
namespace Go.Proofs.Ytiladkinndgeaaa
open Go Go.RowKit Cp

theorem row1' {W : World} {r : Nat} {x y : Int} (h0 : W.cell? ⟨r, 0, none⟩ = some (.int .i64 x)) (h1 : W.cell? ⟨r, 1, none⟩ = some (.int .i64 y)) (ix : I64 x) (iy : I64 y) (hr : r < W.heap.size) :
    RSl RStp 2 (fun k => k = r) W (.slice (some ⟨r, 0, none⟩) 1 1) [(x, y)] :=
  rsl_of_range (rangeAt2 h0 h1) (chunks_one rfl ⟨rfl, ix, iy⟩) rfl hr (Nat.le_refl _) (by unfold maxLen; omega)
/-- a mark in new memory, as read -/
def IsNewMark (m : Mk) (w : World) (e : Ending) (w' : World) : Prop := ∃ cs, e = .returned (.agg cs.toArray) ∧ RMk (fun k => w.heap.size ≤ k) w' cs m ∧ Ext w w'

theorem at_any (d s c : Int) (hd : I64 d) (hs : I64 s) (hc : I64 c) (w : World) :
    Calls Try.prog 70 #[.int .i64 d, .int .i64 s, .int .i64 c] w (IsNewMark ([(d, s)], c) w) := by
  go_enter Try.func70, Try.ntmps70
  go_wp2_with fail
  refine bodyPost_end (v := .agg #[.slice (some ⟨w.heap.size + 1, 0, none⟩) 1 1, .int .i64 c]) (by simp [results, Try.results70, go_sem]) rfl ⟨[.slice (some ⟨w.heap.size + 1, 0, none⟩) 1 1, .int .i64 c], rfl, ⟨_, rfl, RSl.more gStp (fun k hk _ => by omega) (row1' (by go_simp) (by go_simp) hd hs (by simp)), hc⟩, (by repeat (first | (with_reducible exact ext_refl _) | (with_reducible refine ext_drew ?_) | (with_reducible refine ext_drewN ?_ _) | (with_reducible refine ext_alloc ?_ _) | (with_reducible refine ext_set ?_ (by first | omega | (simp <;> omega)) _)))⟩
end Go.Proofs.Ytiladkinndgeaaa
/- Two atoms. -/
namespace Go.Proofs.Ytiladkinndgeaaa
open Go Go.RowKit Go.BigFrame Cp

end Go.Proofs.Ytiladkinndgeaaa
