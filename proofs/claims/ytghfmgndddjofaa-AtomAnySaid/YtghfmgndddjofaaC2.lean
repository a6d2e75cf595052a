/- slices.Insert, of one atom. -/
import Derived.Test.YtghfmgndddjofaaC1
import Derived.Lib.Overlaps
import Derived.Lib.AppendZeros
import Derived.Lib.AppendZerosOnto
import Derived.Laws.CopyRow
import Derived.Laws.Externs
import Derived.Deep.RegionLaw
set_option linter.unusedVariables false
set_option linter.unusedSimpArgs false
namespace Go.Proofs.Ytghfmgndddjofaa
open Go Go.RowKit Go.BigFrame Cp

section
variable {P : Program}
theorem wp_copyR (w : World) {o : Oper} {a : Act} {K : Act → World → Prop} {Q : Exit → Act → World → Prop} (d s : Operand) (t t' : TypeId)
    (ho : o.op = .call { callee := .builtin .copy, args := #[d, s], argTypes := #[t, t'] }) (v u : Value) (hd : a.eval d = v) (hs : a.eval s = u) {v' : Value} {w' : World}
    (hr : (Builtin.copy_ #[t, t'] o.type #[v, u]).run P w = .ok v' w') (h : K (a.put o.dst v') w') : o.wp P a w K Q := by
  unfold Oper.wp execOp
  simp only [ho, resolve, invoke, builtin, Sem.run_bind, Sem.run_pure, Result.andThen_ok, List.map_toArray, List.map_cons, List.map_nil, hd, hs, hr]
  exact h
theorem wpList_copyR (w : World) {ops : Array Oper} {rest : List Oper} {o : Oper} {a : Act} {Q : Exit → Act → World → Prop} (hgd : o.guard = none) (d s : Operand) (t t' : TypeId)
    (ho : o.op = .call { callee := .builtin .copy, args := #[d, s], argTypes := #[t, t'] }) (v u : Value) (hd : a.eval d = v) (hs : a.eval s = u) {v' : Value} {w' : World}
    (hr : (Builtin.copy_ #[t, t'] o.type #[v, u]).run P w = .ok v' w') (h : wpList P ops Q rest (a.put o.dst v') w') : wpList P ops Q (o :: rest) a w :=
  wpList_plain hgd fun _ hK => wp_copyR w d s t t' ho v u hd hs hr (hK _ _ h)
theorem step_copyR {ops : Array Oper} {o : Oper} {a : Act} {w : World} {K : Act → World → Prop} {Q : Exit → Act → World → Prop} {E : Prop}
    (hg : o.guard = none) (d s : Operand) (t t' : TypeId) (ho : o.op = .call { callee := .builtin .copy, args := #[d, s], argTypes := #[t, t'] })
    (v u : Value) (hd : a.eval d = v) (hs : a.eval s = u) {v' : Value} {w' : World} (hr : (Builtin.copy_ #[t, t'] o.type #[v, u]).run P w = .ok v' w') (hK : K (a.put o.dst v') w') :
    if Region.wanted o (yielded ops a.tmps) = true then Oper.wp P o a w K Q else E := by
  have hw : Region.wanted o (yielded ops a.tmps) = true := by simp [Region.wanted, hg]
  rw [if_pos hw]
  exact wp_copyR w d s t t' ho v u hd hs hr hK
theorem run_copyN (w : World) (dT sT ty elem : TypeId) (sz g o dLen dCap : Nat) (a : Addr) (sLen sCap : Nat) (cur : Array Value) (t : TypeId) (cs : List Value)
    (hu : P.underlying dT = some (.slice elem)) (hs : (P.info? elem).map (·.size) = some sz)
    (hg : w.heap[g]? = some (.cells cur t (0, 0))) (hn : cs.length = Nat.min sLen dLen * sz)
    (hsrc : ∀ j v, cs[j]? = some v → w.cell? (a.add j) = some v) (hfit : o + cs.length ≤ cur.size) (h1 : ∀ v ∈ cs, v.oneCell' = true) :
    (Builtin.copy_ #[dT, sT] ty #[.slice (some ⟨g, o, none⟩) dLen dCap, .slice (some a) sLen sCap]).run P w =
      .ok (goInt (Nat.min sLen dLen)) (w.setRow g (cur.toList.take o ++ cs ++ cur.toList.drop (o + cs.length)).toArray) := by
  have hl := run_loadCells_list (P := P) w a cs hsrc
  have hst := run_storeCells_at P g o t cs 0 cur w hg (by simpa using hfit) h1
  cases hq : P.info? elem with
  | none => simp [hq] at hs
  | some i =>
    have hi : i.size = sz := by simpa [hq] using hs
    simp [Builtin.copy_, run_underlying hu, Builtin.lenOf, Builtin.firstCells, sizeOf, typeInfo, hq, hi, ← hn, hl, hst]
end
theorem row_shift {A ys : List Value} {p q r : Nat} (hr : r = p + 3) (hy : ys.length = 3) (h1 : p ≤ q) (h2 : q + 3 ≤ A.length) :
    ((A.take r ++ (A.take q).drop p ++ A.drop (r + ((A.take q).drop p).length)).take p ++ ys ++ (A.take r ++ (A.take q).drop p ++ A.drop (r + ((A.take q).drop p).length)).drop (p + 3)).take (q + 3) = (A.take q).take p ++ ys ++ (A.take q).drop p := by
  subst hr
  have e1 : (A.take (p + 3) ++ (A.take q).drop p ++ A.drop (p + 3 + ((A.take q).drop p).length)).take p = A.take p := by
    rw [List.append_assoc, List.take_append_of_le_length (by rw [List.length_take]; omega), List.take_take]; congr 1; omega
  have e2 : (A.take (p + 3) ++ (A.take q).drop p ++ A.drop (p + 3 + ((A.take q).drop p).length)).drop (p + 3) = (A.take q).drop p ++ A.drop (p + 3 + ((A.take q).drop p).length) := by
    rw [List.append_assoc]; exact List.drop_left' (by rw [List.length_take]; omega)
  have e3 : (A.take q).take p = A.take p := by rw [List.take_take]; congr 1; omega
  rw [e1, e2, e3, ← List.append_assoc]
  exact List.take_left' (by simp only [List.length_append, List.length_take, List.length_drop, hy]; omega)
theorem row_grow {A ys zs : List Value} {p r k : Nat} (hr : r = p + 3) (hy : ys.length = 3) (hk : k = r + zs.length) (h2 : p + 3 + zs.length ≤ A.length) :
    ((A.take p ++ ys ++ A.drop (p + ys.length)).take r ++ zs ++ (A.take p ++ ys ++ A.drop (p + ys.length)).drop (r + zs.length)).take k = A.take p ++ ys ++ zs := by
  subst hr hk
  have e1 : (A.take p ++ ys ++ A.drop (p + ys.length)).take (p + 3) = A.take p ++ ys := List.take_left' (by rw [List.length_append, List.length_take]; omega)
  rw [e1]
  exact List.take_left' (by simp only [List.length_append, List.length_take, hy]; omega)
theorem row_size {A ys : List Value} {p : Nat} (h : p + ys.length ≤ A.length) : (A.take p ++ ys ++ A.drop (p + ys.length)).length = A.length := by
  simp only [List.length_append, List.length_take, List.length_drop]; omega
theorem cell_row {w : World} {g : Nat} {cur : Array Value} {t : TypeId} (h : w.heap[g]? = some (.cells cur t (0, 0))) {j : Nat} {v : Value} (hv : cur.toList[j]? = some v) : w.cell? ⟨g, j, none⟩ = some v := by
  simpa [World.cell?, h] using hv
theorem alloc_new' (w : World) (o : Obj) : (w.alloc o).heap[w.heap.size]? = some o := heap_alloc_new w o
theorem alloc_old' (w : World) (o : Obj) {r : Nat} (h : r < w.heap.size) : (w.alloc o).heap[r]? = w.heap[r]? := by
  first | exact heap_alloc_old w o h | exact heap_alloc_old w o r h
theorem c_info_size : (Try.prog.info? 77).map (·.size) = some 3 := by kernel_rfl
theorem add_lit' (g o j : Nat) : (⟨g, o, none⟩ : Addr).add j = ⟨g, o + j, none⟩ := by
  unfold Addr.add; split <;> simp_all
theorem min3 {n i : Nat} (hi : i < n) : ((n - i) * 3 = Nat.min (n + 1 - i) (n - i) * 3) := by
  congr 1
  simp only [Nat.min_def]; split <;> omega
theorem zs_len {A : List Value} {i n : Nat} (hi : i < n) (h : n * 3 ≤ A.length) : ((A.take (n * 3)).drop (i * 3)).length = (n - i) * 3 := by
  rw [List.length_drop, List.length_take]; omega
theorem apart_false (w : World) (vb g o n c lb cb : Nat) {cur row : Array Value} {te tg : TypeId} (hv : w.heap[vb]? = some (.cells row te (0, 0))) (hg : w.heap[g]? = some (.cells cur tg (0, 0))) (h0 : cur.size ≠ 0) (hne : vb ≠ g) :
    (callFunc 140 #[.slice (some ⟨vb, 0, none⟩) n c, .slice (some ⟨g, o, none⟩) lb cb]).run Try.prog w = .ok (.value (.bool false)) w := by
  rw [run_callFunc_extern Try.func140 (by kernel_rfl) (by kernel_rfl) (by kernel_rfl) (e := Extern.SlicesOverlaps.overlaps #[59, 59] #[4]) (by kernel_rfl),
    Lib.run_overlaps_apart w 59 4 77 Try.underlying59 3 Try.sizeOf77 ⟨vb, 0, none⟩ ⟨g, o, none⟩ n c lb cb hne te tg row.size cur.size (by simp [World.shape?, hv]) (by simp [World.shape?, hg]) h0 (by simp [World.frozen?, hv]) (by simp [World.frozen?, hv])]
  rfl
set_option maxRecDepth 100000 in
set_option maxHeartbeats 4000000 in
theorem insert_shift {w : World} {g n c i vb : Nat} {cur : Array Value} {te : TypeId} {x0 x1 x2 : Value} (hg : w.heap[g]? = some (.cells cur 77 (0, 0))) (hi : i < n) (hc : n + 1 ≤ c) (hcm : c ≤ 9223372036854775807) (hcs : cur.size = c * 3)
    (hv : w.heap[vb]? = some (.cells #[x0, x1, x2] te (0, 0))) (hne : vb ≠ g) (h1 : ∀ v ∈ cur.toList.take (n * 3), v.oneCell' = true) (h1v : ∀ v ∈ [x0, x1, x2], v.oneCell' = true) (hn3 : n ≤ 1000) :
    Calls Try.prog 120 #[.slice (some ⟨g, 0, none⟩) n c, .int .i64 i, .slice (some ⟨vb, 0, none⟩) 1 1] w fun e w' => e = .returned (.slice (some ⟨g, 0, none⟩) (n + 1) c) ∧
      ∃ row : Array Value, row.size = c * 3 ∧ row.toList.take ((n + 1) * 3) = (cur.toList.take (n * 3)).take (i * 3) ++ [x0, x1, x2] ++ (cur.toList.take (n * 3)).drop (i * 3) ∧ w'.heap[g]? = some (.cells row 77 (0, 0)) ∧ w.grownBy w' (some g) := by
  have hA : cur.toList.length = c * 3 := by simpa using hcs
  have hz := zs_len (A := cur.toList) hi (by omega)
  obtain ⟨R1, hR1⟩ : ∃ R1 : Array Value, R1 = (cur.toList.take ((i + 1) * 3) ++ (cur.toList.take (n * 3)).drop (i * 3) ++ cur.toList.drop ((i + 1) * 3 + ((cur.toList.take (n * 3)).drop (i * 3)).length)).toArray := ⟨_, rfl⟩
  have hR1s : R1.size = c * 3 := by rw [hR1, List.size_toArray, row_size (by rw [hz]; omega)]; exact hA
  obtain ⟨R2, hR2⟩ : ∃ R2 : Array Value, R2 = (R1.toList.take (i * 3) ++ [x0, x1, x2] ++ R1.toList.drop (i * 3 + [x0, x1, x2].length)).toArray := ⟨_, rfl⟩
  have hR2s : R2.size = c * 3 := by rw [hR2, List.size_toArray, row_size (by simp; omega)]; simpa using hR1s
  have hR2t : R2.toList.take ((n + 1) * 3) = (cur.toList.take (n * 3)).take (i * 3) ++ [x0, x1, x2] ++ (cur.toList.take (n * 3)).drop (i * 3) := by
    have hlen : [x0, x1, x2].length = 3 := rfl
    rw [hR2, List.toList_toArray, hR1, List.toList_toArray, hlen]
    have := row_shift (A := cur.toList) (ys := [x0, x1, x2]) (p := i * 3) (q := n * 3) (r := (i + 1) * 3) (by omega) rfl (by omega) (by omega)
    rw [show (n + 1) * 3 = n * 3 + 3 by omega]
    exact this
  have hcp1 : ∀ (W : World), W.heap[g]? = some (.cells cur 77 (0, 0)) → ∀ ty dc sc, (Builtin.copy_ #[59, 59] ty #[.slice (some ⟨g, (i + 1) * 3, none⟩) (n - i) dc, .slice (some ⟨g, i * 3, none⟩) (n + 1 - i) sc]).run Try.prog W = .ok (goInt (Nat.min (n + 1 - i) (n - i) : Nat)) (W.setRow g R1) := fun W hW ty dc sc => by
    rw [hR1]
    exact run_copyN W _ _ ty _ 3 g _ _ dc ⟨g, i * 3, none⟩ _ sc cur _ _ Try.underlying59 c_info_size hW (by rw [hz]; exact min3 hi)
      (fun j v hj => by
        rw [add_lit']
        refine cell_row hW ?_
        rw [List.getElem?_drop, List.getElem?_take] at hj
        split at hj
        · exact hj
        · cases hj) (by rw [hz, hcs]; omega) (fun v hv => h1 v (List.mem_of_mem_drop hv))
  have hcp2 : ∀ (W : World), W.heap[g]? = some (.cells R1 77 (0, 0)) → W.heap[vb]? = some (.cells #[x0, x1, x2] te (0, 0)) → ∀ ty dc, (Builtin.copy_ #[59, 59] ty #[.slice (some ⟨g, i * 3, none⟩) (n + 1 - i) dc, .slice (some ⟨vb, 0, none⟩) 1 1]).run Try.prog W = .ok (goInt (Nat.min 1 (n + 1 - i) : Nat)) (W.setRow g R2) := fun W hW hWv ty dc => by
    rw [hR2]
    exact run_copyN W _ _ ty _ 3 g _ _ dc ⟨vb, 0, none⟩ 1 1 R1 _ [x0, x1, x2] Try.underlying59 c_info_size hW (by rw [show Nat.min 1 (n + 1 - i) = 1 by simp only [Nat.min_def]; split <;> omega]; rfl)
      (fun j v hj => by rw [add_lit', Nat.zero_add]; exact cell_row hWv (by simpa using hj)) (by rw [hR1s]; simp; omega) h1v
  have hov : ∀ (W : World), W.heap[vb]? = some (.cells #[x0, x1, x2] te (0, 0)) → W.heap[g]? = some (.cells cur 77 (0, 0)) → ∀ o lb cb, (callFunc 140 #[.slice (some ⟨vb, 0, none⟩) 1 1, .slice (some ⟨g, o, none⟩) lb cb]).run Try.prog W = .ok (.value (.bool false)) W := fun W h1 h2 o lb cb => apart_false W vb g o 1 1 lb cb h1 h2 (by omega) hne
  have hov := hov w hv hg
  have HC1 := Lib.hid hcp1
  have HC2 := Lib.hid hcp2
  have HG := Lib.hid hg
  have HV := Lib.hid hv
  have hwi : -9223372036854775808 ≤ (i : Int) + 1 ∧ (i : Int) + 1 ≤ 9223372036854775807 := by omega
  have hwn : -9223372036854775808 ≤ (n : Int) + 1 ∧ (n : Int) + 1 ≤ 9223372036854775807 := by omega
  have hz2 : ¬ ((i : Int) = (n : Int)) := by omega
  have hz3 : ¬ ((c : Int) < (n : Int) + 1) := by omega
  have hb1 : (0 : Int) ≤ (i : Int) + 1 := by omega
  have hb5 : (0 : Int) ≤ (n : Int) + 1 := by omega
  have hb0 : (0 : Int) ≤ (i : Int) := by omega
  have hin : i ≤ n := by omega
  have hinI : (i : Int) ≤ (n : Int) := by omega
  have htn : ((i : Int) + 1).toNat = i + 1 := by omega
  have htm : ((n : Int) + 1).toNat = n + 1 := by omega
  have hb2 : ¬ (c = i + 1) := by omega
  have hb3 : (i : Int) ≤ (n : Int) + 1 := by omega
  have hb6 : (i : Int) + 1 ≤ (n : Int) + 1 := by omega
  have hb7 : (n : Int) + 1 ≤ (c : Int) := by omega
  have hb4 : ¬ (c = i) := by omega
  clear hcp1 hcp2 hA hz hR1s h1 h1v hR1 hR2 hcs
  have hw1 : IntKind.i64.wrap ((i : Int) + 1) = (i : Int) + 1 := IntWalk.i64_in _ hwi
  have hw2 : IntKind.i64.wrap ((n : Int) + 1) = (n : Int) + 1 := IntWalk.i64_in _ hwn
  have hw3 : wrap64 ((i : Int) + 1) = (i : Int) + 1 := IntWalk.wrap64_in _ hwi
  have hw4 : wrap64 ((n : Int) + 1) = (n : Int) + 1 := IntWalk.wrap64_in _ hwn
  clear hwi hwn hcm
  go_enter Try.func120, Try.ntmps120
  go_wp2_with (simp only [hov])
  go_region_law (refine step_copyR rfl (.tmp 73) (.tmp 76) 59 59 rfl (.slice (some ⟨g, (i + 1) * 3, none⟩) (n - i) (c - (i + 1))) (.slice (some ⟨g, i * 3, none⟩) (n + 1 - i) (c - i)) (by simp [Act.eval, Act.put]) (by simp [Act.eval, Act.put]) (HC1.out w.drew HG.out 3 (c - (i + 1)) (c - i)) ?_)
  all_goals go_wp2_with ((with_reducible (show wpList _ _ _ (_ :: _) _ _)); (refine wpList_copyR _ rfl (.tmp 80) (.tmp 81) 59 59 rfl _ _ rfl rfl (HC2.out _ (setRow_heap w.drew g cur R1 _ _ HG.out) ((setRow_other w.drew g vb R1 hne).trans HV.out) _ _) ?_))
  all_goals go_ret
  all_goals exact ⟨rfl, R2, hR2s, hR2t, setRow_heap _ g R1 R2 _ _ (setRow_heap w.drew g cur R1 _ _ HG.out), ⟨rfl, rfl, rfl, by simp, fun k _ hk => (setRow_other _ g k R2 (fun e => hk (congrArg some e))).trans (setRow_other w.drew g k R1 (fun e => hk (congrArg some e)))⟩⟩
set_option maxRecDepth 100000 in
set_option maxHeartbeats 4000000 in
theorem insert_grow {w : World} {g n c i vb : Nat} {cur : Array Value} {te : TypeId} {x0 x1 x2 : Value} (hg : w.heap[g]? = some (.cells cur 77 (0, 0))) (hi : i < n) (hnc : n ≤ c) (hc : c < n + 1) (hcm : c ≤ 9223372036854775807) (hcs : cur.size = c * 3)
    (hv : w.heap[vb]? = some (.cells #[x0, x1, x2] te (0, 0))) (h1 : ∀ v ∈ cur.toList.take (n * 3), v.oneCell' = true) (h1v : ∀ v ∈ [x0, x1, x2], v.oneCell' = true) (hn3 : n ≤ 1000) :
    Calls Try.prog 120 #[.slice (some ⟨g, 0, none⟩) n c, .int .i64 i, .slice (some ⟨vb, 0, none⟩) 1 1] w fun e w' => ∃ G, e = .returned (.slice (some ⟨w.heap.size, 0, none⟩) (n + 1) G) ∧ n + 1 ≤ G ∧ G ≤ maxLen ∧
      ∃ row : Array Value, row.size = G * 3 ∧ row.toList.take ((n + 1) * 3) = (cur.toList.take (n * 3)).take (i * 3) ++ [x0, x1, x2] ++ (cur.toList.take (n * 3)).drop (i * 3) ∧ w'.heap[w.heap.size]? = some (.cells row 77 (0, 0)) ∧ w.grownBy w' none := by
  have hA : cur.toList.length = c * 3 := by simpa using hcs
  have hz := zs_len (A := cur.toList) hi (by omega)
  have hgw : g < w.heap.size := (Array.getElem?_eq_some_iff.1 hg).1
  have hvw : vb < w.heap.size := (Array.getElem?_eq_some_iff.1 hv).1
  obtain ⟨i0, hi0, hz0, hz1, hz2⟩ := info_parts c_info
  obtain ⟨k, hk⟩ : ∃ k, n + 1 = i + k := ⟨n + 1 - i, by omega⟩
  have holdl : ((cur.toList.take (n * 3)).take (i * 3)).length = i * 3 := by rw [List.length_take, List.length_take]; omega
  have hold : (Builtin.firstCells i0.size i (.slice (some ⟨g, 0, none⟩) i c)).run Try.prog w.drew = .ok ((cur.toList.take (n * 3)).take (i * 3)).toArray w.drew := by
    rw [hz1]
    exact run_firstCells_some w.drew 3 i ⟨g, 0, none⟩ i c ((cur.toList.take (n * 3)).take (i * 3)) holdl (fun j v hj => by
      rw [add_lit', Nat.zero_add]
      refine cell_row (w := w.drew) hg ?_
      rw [List.getElem?_take] at hj
      split at hj
      · rw [List.getElem?_take] at hj
        split at hj
        · exact hj
        · cases hj
      · cases hj)
  obtain ⟨G, hG⟩ : ∃ G, G = grownCap w (n + 1) c 77 := ⟨_, rfl⟩
  have hGn : n + 1 ≤ G := by rw [hG]; exact grownCap_ge w _ _ _
  have hGm : G ≤ maxLen := by rw [hG]; exact grownCap_le_maxLen w _ _ _ (by unfold maxLen; omega)
  obtain ⟨ROW, hROW⟩ : ∃ ROW : Array Value, ROW = ((cur.toList.take (n * 3)).take (i * 3)).toArray ++ Builtin.zeroCells (Value.agg #[.slice none 0 0, .int .i64 0, .int .u8 0]).cells k ++ Builtin.zeroCells (Value.agg #[.slice none 0 0, .int .i64 0, .int .u8 0]).cells (G - (i + k)) := ⟨_, rfl⟩
  have hzc : (Value.agg #[.slice none 0 0, .int .i64 0, .int .u8 0]).cells.size = 3 := by rfl
  have hRs : ROW.size = G * 3 := by
    rw [hROW, Array.size_append, Array.size_append, List.size_toArray, holdl]
    simp only [Builtin.zeroCells, Array.size_map, Array.size_range, hzc]
    omega
  have hRt : ROW.toList.take (i * 3) = (cur.toList.take (n * 3)).take (i * 3) := by
    rw [hROW, Array.toList_append, Array.toList_append, List.toList_toArray, List.append_assoc]
    exact List.take_left' holdl
  have hrz : ∀ ty, (Builtin.append_ #[59, 3] ty #[.slice (some ⟨g, 0, none⟩) i c, .int .i64 ((n : Int) + 1 - (i : Int))]).run Try.prog w =
      .ok (.slice (some ⟨w.heap.size, 0, none⟩) (n + 1) G) (w.drew.alloc (.cells ROW 77)) := fun ty => by
    have h := Lib.run_append_grow_zeros w 59 3 ty 77 i0 _ .i64 .i64 Try.underlying59 Try.underlying3 hi0 hz0 (some ⟨g, 0, none⟩) i c _ hold k (by omega) (by omega) (by omega) (by omega) (by rw [hz2]; omega) (by rw [hz2]; exact growslice_fits (by omega) (by omega))
    rw [hROW, hG, show (n : Int) + 1 - (i : Int) = (k : Int) by omega]
    rw [← hk] at h ⊢
    exact h
  obtain ⟨R1, hR1⟩ : ∃ R1 : Array Value, R1 = (ROW.toList.take (i * 3) ++ [x0, x1, x2] ++ ROW.toList.drop (i * 3 + [x0, x1, x2].length)).toArray := ⟨_, rfl⟩
  have hRl : ROW.toList.length = G * 3 := by simpa using hRs
  have hR1s : R1.size = G * 3 := by rw [hR1, List.size_toArray, row_size (by rw [hRl]; simp; omega)]; exact hRl
  obtain ⟨R2, hR2⟩ : ∃ R2 : Array Value, R2 = (R1.toList.take ((i + 1) * 3) ++ (cur.toList.take (n * 3)).drop (i * 3) ++ R1.toList.drop ((i + 1) * 3 + ((cur.toList.take (n * 3)).drop (i * 3)).length)).toArray := ⟨_, rfl⟩
  have hR2s : R2.size = G * 3 := by rw [hR2, List.size_toArray, row_size (by rw [hz]; simp; omega)]; simpa using hR1s
  have hR2t : R2.toList.take ((n + 1) * 3) = (cur.toList.take (n * 3)).take (i * 3) ++ [x0, x1, x2] ++ (cur.toList.take (n * 3)).drop (i * 3) := by
    rw [hR2, List.toList_toArray, hR1, List.toList_toArray]
    have h9 := row_grow (A := ROW.toList) (ys := [x0, x1, x2]) (zs := (cur.toList.take (n * 3)).drop (i * 3)) (p := i * 3) (r := (i + 1) * 3) (k := (n + 1) * 3) (by omega) rfl (by rw [hz]; omega) (by rw [hz, hRl]; omega)
    rw [hRt] at h9
    rw [hRt]
    exact h9
  have hcp1 : ∀ (W : World), W.heap[w.heap.size]? = some (.cells ROW 77 (0, 0)) → W.heap[vb]? = some (.cells #[x0, x1, x2] te (0, 0)) → ∀ ty dc, (Builtin.copy_ #[59, 59] ty #[.slice (some ⟨w.heap.size, i * 3, none⟩) (n + 1 - i) dc, .slice (some ⟨vb, 0, none⟩) 1 1]).run Try.prog W = .ok (goInt (Nat.min 1 (n + 1 - i) : Nat)) (W.setRow w.heap.size R1) := fun W hW hWv ty dc => by
    rw [hR1]
    exact run_copyN W _ _ ty _ 3 w.heap.size _ _ dc ⟨vb, 0, none⟩ 1 1 ROW _ [x0, x1, x2] Try.underlying59 c_info_size hW (by rw [show Nat.min 1 (n + 1 - i) = 1 by simp only [Nat.min_def]; split <;> omega]; rfl)
      (fun j v hj => by rw [add_lit', Nat.zero_add]; exact cell_row hWv (by simpa using hj)) (by rw [hRs]; simp; omega) h1v
  have hcp2 : ∀ (W : World), W.heap[w.heap.size]? = some (.cells R1 77 (0, 0)) → W.heap[g]? = some (.cells cur 77 (0, 0)) → ∀ ty dc sc, (Builtin.copy_ #[59, 59] ty #[.slice (some ⟨w.heap.size, (i + 1) * 3, none⟩) (n - i) dc, .slice (some ⟨g, i * 3, none⟩) (n - i) sc]).run Try.prog W = .ok (goInt (Nat.min (n - i) (n - i) : Nat)) (W.setRow w.heap.size R2) := fun W hW hWg ty dc sc => by
    rw [hR2]
    exact run_copyN W _ _ ty _ 3 w.heap.size _ _ dc ⟨g, i * 3, none⟩ _ sc R1 _ _ Try.underlying59 c_info_size hW (by rw [hz]; congr 1; exact (Nat.min_self _).symm)
      (fun j v hj => by
        rw [add_lit']
        refine cell_row hWg ?_
        rw [List.getElem?_drop, List.getElem?_take] at hj
        split at hj
        · exact hj
        · cases hj) (by rw [hz, hR1s]; omega) (fun v hv => h1 v (List.mem_of_mem_drop hv))
  have HC1 := Lib.hid hcp1
  have HC2 := Lib.hid hcp2
  have HG := Lib.hid hg
  have HV := Lib.hid hv
  have hne1 : vb ≠ w.heap.size := by omega
  have hne2 : g ≠ w.heap.size := by omega
  have HN := Lib.hid (show (w.drew.alloc (.cells ROW 77)).heap[w.heap.size]? = some (.cells ROW 77 (0, 0)) from alloc_new' w.drew _)
  have HGN := Lib.hid (show (w.drew.alloc (.cells ROW 77)).heap[g]? = some (.cells cur 77 (0, 0)) from (alloc_old' w.drew _ hgw).trans hg)
  have HVN := Lib.hid (show (w.drew.alloc (.cells ROW 77)).heap[vb]? = some (.cells #[x0, x1, x2] te (0, 0)) from (alloc_old' w.drew _ hvw).trans hv)
  have hki : (n : Int) + 1 - (i : Int) = (k : Int) := by omega
  have hwi : -9223372036854775808 ≤ (i : Int) + 1 ∧ (i : Int) + 1 ≤ 9223372036854775807 := by omega
  have hwn : -9223372036854775808 ≤ (n : Int) + 1 ∧ (n : Int) + 1 ≤ 9223372036854775807 := by omega
  have hz2' : ¬ ((i : Int) = (n : Int)) := by omega
  have hz3 : (c : Int) < (n : Int) + 1 := by omega
  have hb1 : (0 : Int) ≤ (i : Int) + 1 := by omega
  have hb5 : (0 : Int) ≤ (n : Int) + 1 := by omega
  have hb0 : (0 : Int) ≤ (i : Int) := by omega
  have hin : i ≤ n := by omega
  have hinI : (i : Int) ≤ (n : Int) := by omega
  have hicI : (i : Int) ≤ (c : Int) := by omega
  have htn : ((i : Int) + 1).toNat = i + 1 := by omega
  have htm : ((n : Int) + 1).toNat = n + 1 := by omega
  have hb3 : (i : Int) ≤ (n : Int) + 1 := by omega
  have hb6 : (i : Int) + 1 ≤ (n : Int) + 1 := by omega
  have hb4 : ¬ (c = i) := by omega
  have hGi : ¬ (G = i) := by omega
  have hGi1 : ¬ (G = i + 1) := by omega
  have hGk : (n : Int) + 1 ≤ (G : Int) := by omega
  clear hcp1 hcp2 hA hz hR1s h1 h1v hR1 hR2 hcs hROW hRs hRt hRl hG hold holdl hk hzc hi0 hz0 hz1 hz2
  have hw1 : IntKind.i64.wrap ((i : Int) + 1) = (i : Int) + 1 := IntWalk.i64_in _ hwi
  have hw2 : IntKind.i64.wrap ((n : Int) + 1) = (n : Int) + 1 := IntWalk.i64_in _ hwn
  have hw3 : wrap64 ((i : Int) + 1) = (i : Int) + 1 := IntWalk.wrap64_in _ hwi
  have hw4 : wrap64 ((n : Int) + 1) = (n : Int) + 1 := IntWalk.wrap64_in _ hwn
  have HGM := Lib.hid hGm
  have HRR := Lib.hid (And.intro hR2s hR2t)
  clear hwi hwn hcm hki hGm hR2s hR2t hgw hvw
  go_enter Try.func120, Try.ntmps120
  go_wp2_with (first
    | (at_builtin; go_must (refine Lib.wpList_append_run _ rfl _ _ _ _ rfl _ _ rfl rfl _ _ (hrz _) ?_))
    | ((with_reducible (show wpList _ _ _ (_ :: _) _ _)); (refine wpList_copyR _ rfl (.tmp 43) (.tmp 44) 59 59 rfl _ _ rfl rfl (HC1.out _ HN.out HVN.out _ _) ?_)))
  go_region_law (refine step_copyR rfl (.tmp 50) (.tmp 53) 59 59 rfl (.slice (some ⟨w.heap.size, (i + 1) * 3, none⟩) (n - i) (G - (i + 1))) (.slice (some ⟨g, i * 3, none⟩) (n - i) (c - i)) (by simp [Act.eval, Act.put]) (by simp [Act.eval, Act.put]) (HC2.out (((w.drew.alloc (.cells ROW 77)).setRow w.heap.size R1).drew) (setRow_heap _ w.heap.size ROW R1 _ _ HN.out) ((setRow_other _ w.heap.size g R1 hne2).trans HGN.out) 3 (G - (i + 1)) (c - i)) ?_)
  all_goals go_wp2
  all_goals go_ret
  all_goals exact ⟨G, rfl, hGn, HGM.out, R2, HRR.out.1, HRR.out.2, setRow_heap _ w.heap.size R1 R2 _ _ (setRow_heap _ w.heap.size ROW R1 _ _ HN.out), ⟨rfl, rfl, rfl, by simp, fun k hk _ => ((setRow_other _ w.heap.size k R2 (by omega)).trans (setRow_other _ w.heap.size k R1 (by omega))).trans (alloc_old' w.drew _ hk)⟩⟩
end Go.Proofs.Ytghfmgndddjofaa
