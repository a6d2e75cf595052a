/- slices.Insert, of one atom. -/
import Derived.Test.YtfgfdohppgoajaaGreatQebf1797204
import Derived.Lib.Overlaps
import Derived.Lib.AppendZeros
import Derived.Lib.AppendZerosOnto
import Derived.Laws.CopyRow
import Derived.Laws.Externs
import Derived.Deep.RegionLaw
import Derived.Test.YtfgfdohppgoajaaGreatQ8ebb1f5718
import Derived.Test.YtfgfdohppgoajaaGreatQ5ab4d67304
set_option linter.unusedVariables false
set_option linter.unusedSimpArgs false
namespace Go.Proofs.YtfgfdohppgoajaaGreat
open Go Go.RowKit Go.BigFrame Cp

section
variable {P : Program}
theorem wp_copyR (w : World) {o : Oper} {a : Act} {K : Act → World → Prop} {Q : Exit → Act → World → Prop} (d s : Operand) (t t' : TypeId)
    (ho : o.op = .call { callee := .builtin .copy, args := #[d, s], argTypes := #[t, t'] }) (v u : Value) (hd : a.eval d = v) (hs : a.eval s = u) {v' : Value} {w' : World}
    (hr : (Builtin.copy_ #[t, t'] o.type #[v, u]).run P w = .ok v' w') (h : K (a.put o.dst v') w') : o.wp P a w K Q := by
  unfold Oper.wp execOp
  simp only [ho, resolve, invoke, builtin, Sem.run_bind, Sem.run_pure, Result.andThen_ok, List.map_toArray, List.map_cons, List.map_nil, hd, hs, hr]
  exact h
theorem wpList_copyR (w : World) {ops : Array Oper} {rest : List Oper} {o : Oper} {a : Act} {Q : Exit → Act → World → Prop} (hgd : o.guard = none) (d s : Operand) (t t' : TypeId)
    (ho : o.op = .call { callee := .builtin .copy, args := #[d, s], argTypes := #[t, t'] }) (v u : Value) (hd : a.eval d = v) (hs : a.eval s = u) {v' : Value} {w' : World}
    (hr : (Builtin.copy_ #[t, t'] o.type #[v, u]).run P w = .ok v' w') (h : wpList P ops Q rest (a.put o.dst v') w') : wpList P ops Q (o :: rest) a w :=
  wpList_plain hgd fun _ hK => wp_copyR w d s t t' ho v u hd hs hr (hK _ _ h)
theorem step_copyR {ops : Array Oper} {o : Oper} {a : Act} {w : World} {K : Act → World → Prop} {Q : Exit → Act → World → Prop} {E : Prop}
    (hg : o.guard = none) (d s : Operand) (t t' : TypeId) (ho : o.op = .call { callee := .builtin .copy, args := #[d, s], argTypes := #[t, t'] })
    (v u : Value) (hd : a.eval d = v) (hs : a.eval s = u) {v' : Value} {w' : World} (hr : (Builtin.copy_ #[t, t'] o.type #[v, u]).run P w = .ok v' w') (hK : K (a.put o.dst v') w') :
    if Region.wanted o (yielded ops a.tmps) = true then Oper.wp P o a w K Q else E := by
  have hw : Region.wanted o (yielded ops a.tmps) = true := by simp [Region.wanted, hg]
  rw [if_pos hw]
  exact wp_copyR w d s t t' ho v u hd hs hr hK
theorem run_copyN (w : World) (dT sT ty elem : TypeId) (sz g o dLen dCap : Nat) (a : Addr) (sLen sCap : Nat) (cur : Array Value) (t : TypeId) (cs : List Value)
    (hu : P.underlying dT = some (.slice elem)) (hs : (P.info? elem).map (·.size) = some sz)
    (hg : w.heap[g]? = some (.cells cur t (0, 0))) (hn : cs.length = Nat.min sLen dLen * sz)
    (hsrc : ∀ j v, cs[j]? = some v → w.cell? (a.add j) = some v) (hfit : o + cs.length ≤ cur.size) (h1 : ∀ v ∈ cs, v.oneCell' = true) :
    (Builtin.copy_ #[dT, sT] ty #[.slice (some ⟨g, o, none⟩) dLen dCap, .slice (some a) sLen sCap]).run P w =
      .ok (goInt (Nat.min sLen dLen)) (w.setRow g (cur.toList.take o ++ cs ++ cur.toList.drop (o + cs.length)).toArray) := by
  have hl := run_loadCells_list (P := P) w a cs hsrc
  have hst := run_storeCells_at P g o t cs 0 cur w hg (by simpa using hfit) h1
  cases hq : P.info? elem with
  | none => simp [hq] at hs
  | some i =>
    have hi : i.size = sz := by simpa [hq] using hs
    simp [Builtin.copy_, run_underlying hu, Builtin.lenOf, Builtin.firstCells, sizeOf, typeInfo, hq, hi, ← hn, hl, hst]
end
theorem row_shift {A ys : List Value} {p q r : Nat} (hr : r = p + 3) (hy : ys.length = 3) (h1 : p ≤ q) (h2 : q + 3 ≤ A.length) :
    ((A.take r ++ (A.take q).drop p ++ A.drop (r + ((A.take q).drop p).length)).take p ++ ys ++ (A.take r ++ (A.take q).drop p ++ A.drop (r + ((A.take q).drop p).length)).drop (p + 3)).take (q + 3) = (A.take q).take p ++ ys ++ (A.take q).drop p := by
  subst hr
  have e1 : (A.take (p + 3) ++ (A.take q).drop p ++ A.drop (p + 3 + ((A.take q).drop p).length)).take p = A.take p := by
    rw [List.append_assoc, List.take_append_of_le_length (by rw [List.length_take]; omega), List.take_take]; congr 1; omega
  have e2 : (A.take (p + 3) ++ (A.take q).drop p ++ A.drop (p + 3 + ((A.take q).drop p).length)).drop (p + 3) = (A.take q).drop p ++ A.drop (p + 3 + ((A.take q).drop p).length) := by
    rw [List.append_assoc]; exact List.drop_left' (by rw [List.length_take]; omega)
  have e3 : (A.take q).take p = A.take p := by rw [List.take_take]; congr 1; omega
  rw [e1, e2, e3, ← List.append_assoc]
  exact List.take_left' (by simp only [List.length_append, List.length_take, List.length_drop, hy]; omega)
theorem row_grow {A ys zs : List Value} {p r k : Nat} (hr : r = p + 3) (hy : ys.length = 3) (hk : k = r + zs.length) (h2 : p + 3 + zs.length ≤ A.length) :
    ((A.take p ++ ys ++ A.drop (p + ys.length)).take r ++ zs ++ (A.take p ++ ys ++ A.drop (p + ys.length)).drop (r + zs.length)).take k = A.take p ++ ys ++ zs := by
  subst hr hk
  have e1 : (A.take p ++ ys ++ A.drop (p + ys.length)).take (p + 3) = A.take p ++ ys := List.take_left' (by rw [List.length_append, List.length_take]; omega)
  rw [e1]
  exact List.take_left' (by simp only [List.length_append, List.length_take, hy]; omega)
theorem row_size {A ys : List Value} {p : Nat} (h : p + ys.length ≤ A.length) : (A.take p ++ ys ++ A.drop (p + ys.length)).length = A.length := by
  simp only [List.length_append, List.length_take, List.length_drop]; omega
theorem cell_row {w : World} {g : Nat} {cur : Array Value} {t : TypeId} (h : w.heap[g]? = some (.cells cur t (0, 0))) {j : Nat} {v : Value} (hv : cur.toList[j]? = some v) : w.cell? ⟨g, j, none⟩ = some v := by
  simpa [World.cell?, h] using hv
theorem alloc_new' (w : World) (o : Obj) : (w.alloc o).heap[w.heap.size]? = some o := heap_alloc_new w o
theorem alloc_old' (w : World) (o : Obj) {r : Nat} (h : r < w.heap.size) : (w.alloc o).heap[r]? = w.heap[r]? := by
  first | exact heap_alloc_old w o h | exact heap_alloc_old w o r h
theorem c_info_size : (Tryz.prog.info? 83).map (·.size) = some 3 := by kernel_rfl
theorem add_lit' (g o j : Nat) : (⟨g, o, none⟩ : Addr).add j = ⟨g, o + j, none⟩ := by
  unfold Addr.add; split <;> simp_all
theorem min3 {n i : Nat} (hi : i < n) : ((n - i) * 3 = Nat.min (n + 1 - i) (n - i) * 3) := by
  congr 1
  simp only [Nat.min_def]; split <;> omega
theorem zs_len {A : List Value} {i n : Nat} (hi : i < n) (h : n * 3 ≤ A.length) : ((A.take (n * 3)).drop (i * 3)).length = (n - i) * 3 := by
  rw [List.length_drop, List.length_take]; omega
theorem apart_false (w : World) (vb g o n c lb cb : Nat) {cur row : Array Value} {te tg : TypeId} (hv : w.heap[vb]? = some (.cells row te (0, 0))) (hg : w.heap[g]? = some (.cells cur tg (0, 0))) (h0 : cur.size ≠ 0) (hne : vb ≠ g) :
    (callFunc 137 #[.slice (some ⟨vb, 0, none⟩) n c, .slice (some ⟨g, o, none⟩) lb cb]).run Tryz.prog w = .ok (.value (.bool false)) w := by
  rw [run_callFunc_extern Tryz.func137 (by kernel_rfl) (by kernel_rfl) (by kernel_rfl) (e := Extern.SlicesOverlaps.overlaps #[22, 22] #[4]) (by kernel_rfl),
    Lib.run_overlaps_apart w 22 4 83 Tryz.underlying22 3 Tryz.sizeOf83 ⟨vb, 0, none⟩ ⟨g, o, none⟩ n c lb cb hne te tg row.size cur.size (by simp [World.shape?, hv]) (by simp [World.shape?, hg]) h0 (by simp [World.frozen?, hv]) (by simp [World.frozen?, hv])]
  rfl
set_option maxRecDepth 100000 in
set_option maxHeartbeats 4000000 in
theorem insert_shift {w : World} {g n c i vb : Nat} {cur : Array Value} {te : TypeId} {x0 x1 x2 : Value} (hg : w.heap[g]? = some (.cells cur 83 (0, 0))) (hi : i < n) (hc : n + 1 ≤ c) (hcm : c ≤ 9223372036854775807) (hcs : cur.size = c * 3)
    (hv : w.heap[vb]? = some (.cells #[x0, x1, x2] te (0, 0))) (hne : vb ≠ g) (h1 : ∀ v ∈ cur.toList.take (n * 3), v.oneCell' = true) (h1v : ∀ v ∈ [x0, x1, x2], v.oneCell' = true) (hn3 : n ≤ 1000) :
    Calls Tryz.prog 118 #[.slice (some ⟨g, 0, none⟩) n c, .int .i64 i, .slice (some ⟨vb, 0, none⟩) 1 1] w fun e w' => e = .returned (.slice (some ⟨g, 0, none⟩) (n + 1) c) ∧
      ∃ row : Array Value, row.size = c * 3 ∧ row.toList.take ((n + 1) * 3) = (cur.toList.take (n * 3)).take (i * 3) ++ [x0, x1, x2] ++ (cur.toList.take (n * 3)).drop (i * 3) ∧ w'.heap[g]? = some (.cells row 83 (0, 0)) ∧ w.grownBy w' (some g) := by
  have hA : cur.toList.length = c * 3 := by simpa using hcs
  have hz := zs_len (A := cur.toList) hi (by omega)
  obtain ⟨R1, hR1⟩ : ∃ R1 : Array Value, R1 = (cur.toList.take ((i + 1) * 3) ++ (cur.toList.take (n * 3)).drop (i * 3) ++ cur.toList.drop ((i + 1) * 3 + ((cur.toList.take (n * 3)).drop (i * 3)).length)).toArray := ⟨_, rfl⟩
  have hR1s : R1.size = c * 3 := by rw [hR1, List.size_toArray, row_size (by rw [hz]; omega)]; exact hA
  obtain ⟨R2, hR2⟩ : ∃ R2 : Array Value, R2 = (R1.toList.take (i * 3) ++ [x0, x1, x2] ++ R1.toList.drop (i * 3 + [x0, x1, x2].length)).toArray := ⟨_, rfl⟩
  have hR2s : R2.size = c * 3 := by rw [hR2, List.size_toArray, row_size (by simp; omega)]; simpa using hR1s
  have hR2t : R2.toList.take ((n + 1) * 3) = (cur.toList.take (n * 3)).take (i * 3) ++ [x0, x1, x2] ++ (cur.toList.take (n * 3)).drop (i * 3) := by
    have hlen : [x0, x1, x2].length = 3 := rfl
    rw [hR2, List.toList_toArray, hR1, List.toList_toArray, hlen]
    have := row_shift (A := cur.toList) (ys := [x0, x1, x2]) (p := i * 3) (q := n * 3) (r := (i + 1) * 3) (by omega) rfl (by omega) (by omega)
    rw [show (n + 1) * 3 = n * 3 + 3 by omega]
    exact this
  have hcp1 : ∀ (W : World), W.heap[g]? = some (.cells cur 83 (0, 0)) → ∀ ty dc sc, (Builtin.copy_ #[22, 22] ty #[.slice (some ⟨g, (i + 1) * 3, none⟩) (n - i) dc, .slice (some ⟨g, i * 3, none⟩) (n + 1 - i) sc]).run Tryz.prog W = .ok (goInt (Nat.min (n + 1 - i) (n - i) : Nat)) (W.setRow g R1) := fun W hW ty dc sc => by
    rw [hR1]
    exact run_copyN W _ _ ty _ 3 g _ _ dc ⟨g, i * 3, none⟩ _ sc cur _ _ Tryz.underlying22 c_info_size hW (by rw [hz]; exact min3 hi)
      (fun j v hj => by
        rw [add_lit']
        refine cell_row hW ?_
        rw [List.getElem?_drop, List.getElem?_take] at hj
        split at hj
        · exact hj
        · cases hj) (by rw [hz, hcs]; omega) (fun v hv => h1 v (List.mem_of_mem_drop hv))
  have hcp2 : ∀ (W : World), W.heap[g]? = some (.cells R1 83 (0, 0)) → W.heap[vb]? = some (.cells #[x0, x1, x2] te (0, 0)) → ∀ ty dc, (Builtin.copy_ #[22, 22] ty #[.slice (some ⟨g, i * 3, none⟩) (n + 1 - i) dc, .slice (some ⟨vb, 0, none⟩) 1 1]).run Tryz.prog W = .ok (goInt (Nat.min 1 (n + 1 - i) : Nat)) (W.setRow g R2) := fun W hW hWv ty dc => by
    rw [hR2]
    exact run_copyN W _ _ ty _ 3 g _ _ dc ⟨vb, 0, none⟩ 1 1 R1 _ [x0, x1, x2] Tryz.underlying22 c_info_size hW (by rw [show Nat.min 1 (n + 1 - i) = 1 by simp only [Nat.min_def]; split <;> omega]; rfl)
      (fun j v hj => by rw [add_lit', Nat.zero_add]; exact cell_row hWv (by simpa using hj)) (by rw [hR1s]; simp; omega) h1v
  have hov : ∀ (W : World), W.heap[vb]? = some (.cells #[x0, x1, x2] te (0, 0)) → W.heap[g]? = some (.cells cur 83 (0, 0)) → ∀ o lb cb, (callFunc 137 #[.slice (some ⟨vb, 0, none⟩) 1 1, .slice (some ⟨g, o, none⟩) lb cb]).run Tryz.prog W = .ok (.value (.bool false)) W := fun W h1 h2 o lb cb => apart_false W vb g o 1 1 lb cb h1 h2 (by omega) hne
  have hov := hov w hv hg
  have HC1 := Lib.hid hcp1
  have HC2 := Lib.hid hcp2
  have HG := Lib.hid hg
  have HV := Lib.hid hv
  have hwi : -9223372036854775808 ≤ (i : Int) + 1 ∧ (i : Int) + 1 ≤ 9223372036854775807 := by omega
  have hwn : -9223372036854775808 ≤ (n : Int) + 1 ∧ (n : Int) + 1 ≤ 9223372036854775807 := by omega
  have hz2 : ¬ ((i : Int) = (n : Int)) := by omega
  have hz3 : ¬ ((c : Int) < (n : Int) + 1) := by omega
  have hb1 : (0 : Int) ≤ (i : Int) + 1 := by omega
  have hb5 : (0 : Int) ≤ (n : Int) + 1 := by omega
  have hb0 : (0 : Int) ≤ (i : Int) := by omega
  have hin : i ≤ n := by omega
  have hinI : (i : Int) ≤ (n : Int) := by omega
  have htn : ((i : Int) + 1).toNat = i + 1 := by omega
  have htm : ((n : Int) + 1).toNat = n + 1 := by omega
  have hb2 : ¬ (c = i + 1) := by omega
  have hb3 : (i : Int) ≤ (n : Int) + 1 := by omega
  have hb6 : (i : Int) + 1 ≤ (n : Int) + 1 := by omega
  have hb7 : (n : Int) + 1 ≤ (c : Int) := by omega
  have hb4 : ¬ (c = i) := by omega
  clear hcp1 hcp2 hA hz hR1s h1 h1v hR1 hR2 hcs
  have hw1 : IntKind.i64.wrap ((i : Int) + 1) = (i : Int) + 1 := IntWalk.i64_in _ hwi
  have hw2 : IntKind.i64.wrap ((n : Int) + 1) = (n : Int) + 1 := IntWalk.i64_in _ hwn
  have hw3 : wrap64 ((i : Int) + 1) = (i : Int) + 1 := IntWalk.wrap64_in _ hwi
  have hw4 : wrap64 ((n : Int) + 1) = (n : Int) + 1 := IntWalk.wrap64_in _ hwn
  clear hwi hwn hcm
  go_enter Tryz.func118, Tryz.ntmps118
  go_wp2_with (simp only [hov])
  go_region_law (refine step_copyR rfl (.tmp 73) (.tmp 76) 22 22 rfl (.slice (some ⟨g, (i + 1) * 3, none⟩) (n - i) (c - (i + 1))) (.slice (some ⟨g, i * 3, none⟩) (n + 1 - i) (c - i)) (by simp [Act.eval, Act.put]) (by simp [Act.eval, Act.put]) (HC1.out w.drew HG.out 3 (c - (i + 1)) (c - i)) ?_)
  all_goals go_wp2_with ((with_reducible (show wpList _ _ _ (_ :: _) _ _)); (refine wpList_copyR _ rfl (.tmp 80) (.tmp 81) 22 22 rfl _ _ rfl rfl (HC2.out _ (setRow_heap w.drew g cur R1 _ _ HG.out) ((setRow_other w.drew g vb R1 hne).trans HV.out) _ _) ?_))
  all_goals go_ret
  all_goals exact ⟨rfl, R2, hR2s, hR2t, setRow_heap _ g R1 R2 _ _ (setRow_heap w.drew g cur R1 _ _ HG.out), ⟨rfl, rfl, rfl, by simp, fun k _ hk => (setRow_other _ g k R2 (fun e => hk (congrArg some e))).trans (setRow_other w.drew g k R1 (fun e => hk (congrArg some e)))⟩⟩
set_option maxRecDepth 100000 in
set_option maxHeartbeats 4000000 in
theorem insert_grow {w : World} {g n c i vb : Nat} {cur : Array Value} {te : TypeId} {x0 x1 x2 : Value} (hg : w.heap[g]? = some (.cells cur 83 (0, 0))) (hi : i < n) (hnc : n ≤ c) (hc : c < n + 1) (hcm : c ≤ 9223372036854775807) (hcs : cur.size = c * 3)
    (hv : w.heap[vb]? = some (.cells #[x0, x1, x2] te (0, 0))) (h1 : ∀ v ∈ cur.toList.take (n * 3), v.oneCell' = true) (h1v : ∀ v ∈ [x0, x1, x2], v.oneCell' = true) (hn3 : n ≤ 1000) :
    Calls Tryz.prog 118 #[.slice (some ⟨g, 0, none⟩) n c, .int .i64 i, .slice (some ⟨vb, 0, none⟩) 1 1] w fun e w' => ∃ G, e = .returned (.slice (some ⟨w.heap.size, 0, none⟩) (n + 1) G) ∧ n + 1 ≤ G ∧ G ≤ maxLen ∧
      ∃ row : Array Value, row.size = G * 3 ∧ row.toList.take ((n + 1) * 3) = (cur.toList.take (n * 3)).take (i * 3) ++ [x0, x1, x2] ++ (cur.toList.take (n * 3)).drop (i * 3) ∧ w'.heap[w.heap.size]? = some (.cells row 83 (0, 0)) ∧ w.grownBy w' none := by
  have hA : cur.toList.length = c * 3 := by simpa using hcs
  have hz := zs_len (A := cur.toList) hi (by omega)
  have hgw : g < w.heap.size := (Array.getElem?_eq_some_iff.1 hg).1
  have hvw : vb < w.heap.size := (Array.getElem?_eq_some_iff.1 hv).1
  obtain ⟨i0, hi0, hz0, hz1, hz2⟩ := info_parts c_info
  obtain ⟨k, hk⟩ : ∃ k, n + 1 = i + k := ⟨n + 1 - i, by omega⟩
  have holdl : ((cur.toList.take (n * 3)).take (i * 3)).length = i * 3 := by rw [List.length_take, List.length_take]; omega
  have hold : (Builtin.firstCells i0.size i (.slice (some ⟨g, 0, none⟩) i c)).run Tryz.prog w.drew = .ok ((cur.toList.take (n * 3)).take (i * 3)).toArray w.drew := by
    rw [hz1]
    exact run_firstCells_some w.drew 3 i ⟨g, 0, none⟩ i c ((cur.toList.take (n * 3)).take (i * 3)) holdl (fun j v hj => by
      rw [add_lit', Nat.zero_add]
      refine cell_row (w := w.drew) hg ?_
      rw [List.getElem?_take] at hj
      split at hj
      · rw [List.getElem?_take] at hj
        split at hj
        · exact hj
        · cases hj
      · cases hj)
  obtain ⟨G, hG⟩ : ∃ G, G = grownCap w (n + 1) c 83 := ⟨_, rfl⟩
  have hGn : n + 1 ≤ G := by rw [hG]; exact grownCap_ge w _ _ _
  have hGm : G ≤ maxLen := by rw [hG]; exact grownCap_le_maxLen w _ _ _ (by unfold maxLen; omega)
  obtain ⟨ROW, hROW⟩ : ∃ ROW : Array Value, ROW = ((cur.toList.take (n * 3)).take (i * 3)).toArray ++ Builtin.zeroCells (Value.agg #[.slice none 0 0, .int .i64 0, .int .u8 0]).cells k ++ Builtin.zeroCells (Value.agg #[.slice none 0 0, .int .i64 0, .int .u8 0]).cells (G - (i + k)) := ⟨_, rfl⟩
  have hzc : (Value.agg #[.slice none 0 0, .int .i64 0, .int .u8 0]).cells.size = 3 := by rfl
  have hRs : ROW.size = G * 3 := by
    rw [hROW, Array.size_append, Array.size_append, List.size_toArray, holdl]
    simp only [Builtin.zeroCells, Array.size_map, Array.size_range, hzc]
    omega
  have hRt : ROW.toList.take (i * 3) = (cur.toList.take (n * 3)).take (i * 3) := by
    rw [hROW, Array.toList_append, Array.toList_append, List.toList_toArray, List.append_assoc]
    exact List.take_left' holdl
  have hrz : ∀ ty, (Builtin.append_ #[22, 3] ty #[.slice (some ⟨g, 0, none⟩) i c, .int .i64 ((n : Int) + 1 - (i : Int))]).run Tryz.prog w =
      .ok (.slice (some ⟨w.heap.size, 0, none⟩) (n + 1) G) (w.drew.alloc (.cells ROW 83)) := fun ty => by
    have h := Lib.run_append_grow_zeros w 22 3 ty 83 i0 _ .i64 .i64 Tryz.underlying22 Tryz.underlying3 hi0 hz0 (some ⟨g, 0, none⟩) i c _ hold k (by omega) (by omega) (by omega) (by omega) (by rw [hz2]; omega) (by rw [hz2]; exact growslice_fits (by omega) (by omega))
    rw [hROW, hG, show (n : Int) + 1 - (i : Int) = (k : Int) by omega]
    rw [← hk] at h ⊢
    exact h
  obtain ⟨R1, hR1⟩ : ∃ R1 : Array Value, R1 = (ROW.toList.take (i * 3) ++ [x0, x1, x2] ++ ROW.toList.drop (i * 3 + [x0, x1, x2].length)).toArray := ⟨_, rfl⟩
  have hRl : ROW.toList.length = G * 3 := by simpa using hRs
  have hR1s : R1.size = G * 3 := by rw [hR1, List.size_toArray, row_size (by rw [hRl]; simp; omega)]; exact hRl
  obtain ⟨R2, hR2⟩ : ∃ R2 : Array Value, R2 = (R1.toList.take ((i + 1) * 3) ++ (cur.toList.take (n * 3)).drop (i * 3) ++ R1.toList.drop ((i + 1) * 3 + ((cur.toList.take (n * 3)).drop (i * 3)).length)).toArray := ⟨_, rfl⟩
  have hR2s : R2.size = G * 3 := by rw [hR2, List.size_toArray, row_size (by rw [hz]; simp; omega)]; simpa using hR1s
  have hR2t : R2.toList.take ((n + 1) * 3) = (cur.toList.take (n * 3)).take (i * 3) ++ [x0, x1, x2] ++ (cur.toList.take (n * 3)).drop (i * 3) := by
    rw [hR2, List.toList_toArray, hR1, List.toList_toArray]
    have h9 := row_grow (A := ROW.toList) (ys := [x0, x1, x2]) (zs := (cur.toList.take (n * 3)).drop (i * 3)) (p := i * 3) (r := (i + 1) * 3) (k := (n + 1) * 3) (by omega) rfl (by rw [hz]; omega) (by rw [hz, hRl]; omega)
    rw [hRt] at h9
    rw [hRt]
    exact h9
  have hcp1 : ∀ (W : World), W.heap[w.heap.size]? = some (.cells ROW 83 (0, 0)) → W.heap[vb]? = some (.cells #[x0, x1, x2] te (0, 0)) → ∀ ty dc, (Builtin.copy_ #[22, 22] ty #[.slice (some ⟨w.heap.size, i * 3, none⟩) (n + 1 - i) dc, .slice (some ⟨vb, 0, none⟩) 1 1]).run Tryz.prog W = .ok (goInt (Nat.min 1 (n + 1 - i) : Nat)) (W.setRow w.heap.size R1) := fun W hW hWv ty dc => by
    rw [hR1]
    exact run_copyN W _ _ ty _ 3 w.heap.size _ _ dc ⟨vb, 0, none⟩ 1 1 ROW _ [x0, x1, x2] Tryz.underlying22 c_info_size hW (by rw [show Nat.min 1 (n + 1 - i) = 1 by simp only [Nat.min_def]; split <;> omega]; rfl)
      (fun j v hj => by rw [add_lit', Nat.zero_add]; exact cell_row hWv (by simpa using hj)) (by rw [hRs]; simp; omega) h1v
  have hcp2 : ∀ (W : World), W.heap[w.heap.size]? = some (.cells R1 83 (0, 0)) → W.heap[g]? = some (.cells cur 83 (0, 0)) → ∀ ty dc sc, (Builtin.copy_ #[22, 22] ty #[.slice (some ⟨w.heap.size, (i + 1) * 3, none⟩) (n - i) dc, .slice (some ⟨g, i * 3, none⟩) (n - i) sc]).run Tryz.prog W = .ok (goInt (Nat.min (n - i) (n - i) : Nat)) (W.setRow w.heap.size R2) := fun W hW hWg ty dc sc => by
    rw [hR2]
    exact run_copyN W _ _ ty _ 3 w.heap.size _ _ dc ⟨g, i * 3, none⟩ _ sc R1 _ _ Tryz.underlying22 c_info_size hW (by rw [hz]; congr 1; exact (Nat.min_self _).symm)
      (fun j v hj => by
        rw [add_lit']
        refine cell_row hWg ?_
        rw [List.getElem?_drop, List.getElem?_take] at hj
        split at hj
        · exact hj
        · cases hj) (by rw [hz, hR1s]; omega) (fun v hv => h1 v (List.mem_of_mem_drop hv))
  have HC1 := Lib.hid hcp1
  have HC2 := Lib.hid hcp2
  have HG := Lib.hid hg
  have HV := Lib.hid hv
  have hne1 : vb ≠ w.heap.size := by omega
  have hne2 : g ≠ w.heap.size := by omega
  have HN := Lib.hid (show (w.drew.alloc (.cells ROW 83)).heap[w.heap.size]? = some (.cells ROW 83 (0, 0)) from alloc_new' w.drew _)
  have HGN := Lib.hid (show (w.drew.alloc (.cells ROW 83)).heap[g]? = some (.cells cur 83 (0, 0)) from (alloc_old' w.drew _ hgw).trans hg)
  have HVN := Lib.hid (show (w.drew.alloc (.cells ROW 83)).heap[vb]? = some (.cells #[x0, x1, x2] te (0, 0)) from (alloc_old' w.drew _ hvw).trans hv)
  have hki : (n : Int) + 1 - (i : Int) = (k : Int) := by omega
  have hwi : -9223372036854775808 ≤ (i : Int) + 1 ∧ (i : Int) + 1 ≤ 9223372036854775807 := by omega
  have hwn : -9223372036854775808 ≤ (n : Int) + 1 ∧ (n : Int) + 1 ≤ 9223372036854775807 := by omega
  have hz2' : ¬ ((i : Int) = (n : Int)) := by omega
  have hz3 : (c : Int) < (n : Int) + 1 := by omega
  have hb1 : (0 : Int) ≤ (i : Int) + 1 := by omega
  have hb5 : (0 : Int) ≤ (n : Int) + 1 := by omega
  have hb0 : (0 : Int) ≤ (i : Int) := by omega
  have hin : i ≤ n := by omega
  have hinI : (i : Int) ≤ (n : Int) := by omega
  have hicI : (i : Int) ≤ (c : Int) := by omega
  have htn : ((i : Int) + 1).toNat = i + 1 := by omega
  have htm : ((n : Int) + 1).toNat = n + 1 := by omega
  have hb3 : (i : Int) ≤ (n : Int) + 1 := by omega
  have hb6 : (i : Int) + 1 ≤ (n : Int) + 1 := by omega
  have hb4 : ¬ (c = i) := by omega
  have hGi : ¬ (G = i) := by omega
  have hGi1 : ¬ (G = i + 1) := by omega
  have hGk : (n : Int) + 1 ≤ (G : Int) := by omega
  clear hcp1 hcp2 hA hz hR1s h1 h1v hR1 hR2 hcs hROW hRs hRt hRl hG hold holdl hk hzc hi0 hz0 hz1 hz2
  have hw1 : IntKind.i64.wrap ((i : Int) + 1) = (i : Int) + 1 := IntWalk.i64_in _ hwi
  have hw2 : IntKind.i64.wrap ((n : Int) + 1) = (n : Int) + 1 := IntWalk.i64_in _ hwn
  have hw3 : wrap64 ((i : Int) + 1) = (i : Int) + 1 := IntWalk.wrap64_in _ hwi
  have hw4 : wrap64 ((n : Int) + 1) = (n : Int) + 1 := IntWalk.wrap64_in _ hwn
  have HGM := Lib.hid hGm
  have HRR := Lib.hid (And.intro hR2s hR2t)
  clear hwi hwn hcm hki hGm hR2s hR2t hgw hvw
  go_enter Tryz.func118, Tryz.ntmps118
  go_wp2_with (first
    | (at_builtin; go_must (refine Lib.wpList_append_run _ rfl _ _ _ _ rfl _ _ rfl rfl _ _ (hrz _) ?_))
    | ((with_reducible (show wpList _ _ _ (_ :: _) _ _)); (refine wpList_copyR _ rfl (.tmp 43) (.tmp 44) 22 22 rfl _ _ rfl rfl (HC1.out _ HN.out HVN.out _ _) ?_)))
  go_region_law (refine step_copyR rfl (.tmp 50) (.tmp 53) 22 22 rfl (.slice (some ⟨w.heap.size, (i + 1) * 3, none⟩) (n - i) (G - (i + 1))) (.slice (some ⟨g, i * 3, none⟩) (n - i) (c - i)) (by simp [Act.eval, Act.put]) (by simp [Act.eval, Act.put]) (HC2.out (((w.drew.alloc (.cells ROW 83)).setRow w.heap.size R1).drew) (setRow_heap _ w.heap.size ROW R1 _ _ HN.out) ((setRow_other _ w.heap.size g R1 hne2).trans HGN.out) 3 (G - (i + 1)) (c - i)) ?_)
  all_goals go_wp2
  all_goals go_ret
  all_goals exact ⟨G, rfl, hGn, HGM.out, R2, HRR.out.1, HRR.out.2, setRow_heap _ w.heap.size R1 R2 _ _ (setRow_heap _ w.heap.size ROW R1 _ _ HN.out), ⟨rfl, rfl, rfl, by simp, fun k hk _ => ((setRow_other _ w.heap.size k R2 (by omega)).trans (setRow_other _ w.heap.size k R1 (by omega))).trans (alloc_old' w.drew _ hk)⟩⟩
end Go.Proofs.YtfgfdohppgoajaaGreat
/- slices.Insert, of one atom, into atoms of one's own. -/
namespace Go.Proofs.YtfgfdohppgoajaaGreat
open Go Go.RowKit Go.BigFrame Cp

section
variable {α : Type} {R : Rd α} {sz : Nat} {F : Nat → Prop} {w : World} {xs : List Value} {l : List α}
theorem chunks_take (h : Chunks R sz F w xs l) {i : Nat} (hi : i ≤ l.length) : Chunks R sz F w (xs.take (i * sz)) (l.take i) := by
  have hle : i * sz ≤ xs.length := by rw [h.1]; exact Nat.mul_le_mul_right _ hi
  refine ⟨by rw [List.length_take, List.length_take, Nat.min_eq_left hle, Nat.min_eq_left hi], fun j x hj => ?_⟩
  rw [List.getElem?_take] at hj
  split at hj
  · rename_i hlt
    have h2 := h.2 j x hj
    have h3 : (j + 1) * sz ≤ i * sz := Nat.mul_le_mul_right _ hlt
    rw [Nat.add_mul, Nat.one_mul] at h3
    rw [List.drop_take, List.take_take, Nat.min_eq_left (by omega)]
    exact h2
  · cases hj
theorem chunks_drop (h : Chunks R sz F w xs l) {i : Nat} (hi : i ≤ l.length) : Chunks R sz F w (xs.drop (i * sz)) (l.drop i) := by
  refine ⟨by rw [List.length_drop, List.length_drop, h.1, Nat.mul_sub_right_distrib], fun j x hj => ?_⟩
  rw [List.getElem?_drop] at hj
  have h2 := h.2 (i + j) x hj
  rw [List.drop_drop, ← Nat.add_mul]
  exact h2
end
theorem at_row {F : Nat → Prop} {w : World} {xs : List Value} : ∀ {l : List At}, Chunks RAt 3 F w xs l → ∀ u ∈ xs, u.oneCell' = true
  | [], h, u, hu => by
    have : xs = [] := List.length_eq_zero_iff.1 (by simpa using h.1)
    subst this; simp at hu
  | x :: l, h, u, hu => by
    obtain ⟨h1, h2⟩ := chunks_tail h
    rw [← List.take_append_drop 3 xs] at hu
    rcases List.mem_append.1 hu with hu | hu
    · exact one_at _ _ _ _ h1 u hu
    · exact at_row h2 u hu
set_option maxRecDepth 100000 in
set_option maxHeartbeats 4000000 in
theorem insert_any {base : Nat} {F G : Nat → Prop} {w : World} {v : Value} {l : List At} {i vb : Nat} {te : TypeId} {x0 x1 x2 : Value} {x : At} (hown : OSl RAt 3 83 base F w v l) (hi : i ≤ l.length) (hl : l.length ≤ 1000)
    (hv : w.heap[vb]? = some (.cells #[x0, x1, x2] te (0, 0))) (hx : RAt G w [x0, x1, x2] x) (hG : ∀ k, G k → k < w.heap.size → F k ∧ some k ≠ v.ownBlock) (hvb : some vb ≠ v.ownBlock) (hFv : F vb) (hbase : base ≤ w.heap.size) :
    Calls Tryz.prog 118 #[v, .int .i64 i, .slice (some ⟨vb, 0, none⟩) 1 1] w fun e w' => ∃ v', e = .returned v' ∧ OSl RAt 3 83 base F w' v' (l.take i ++ x :: l.drop i) ∧ w.grownBy w' v.ownBlock ∧ (v'.ownBlock = v.ownBlock ∨ v'.ownBlock = some w.heap.size) := by
  have hvw : vb < w.heap.size := (Array.getElem?_eq_some_iff.1 hv).1
  have h1v : ∀ u ∈ [x0, x1, x2], u.oneCell' = true := one_at _ _ _ _ hx
  have hone : RSl RAt 3 (fun k => G k ∨ k = vb) w (.slice (some ⟨vb, 0, none⟩) 1 1) [x] :=
    rsl_of_range (o := 0) (xs := [x0, x1, x2]) (fun j u hj => by rw [Nat.zero_add]; exact cell_row hv (by simpa using hj)) (chunks_one rfl (gAt.more (fun k hk _ => Or.inl hk) hx)) (Or.inr rfl) hvw (Nat.le_refl _) (by unfold maxLen; omega)
  by_cases hin : i = l.length
  · subst hin
    have e : l.take l.length ++ x :: l.drop l.length = l ++ [x] := by simp
    rw [e]
    obtain ⟨i0, hi0, hz0, hz1, hz2⟩ := info_parts c_info
    have HJ := Lib.hid hi0
    have HZ0 := Lib.hid hz0
    have HZ1 := Lib.hid hz1
    have HZ2 := Lib.hid hz2
    have HO := Lib.hid hown
    have HONE := Lib.hid hone
    have HGG := Lib.hid (show ∀ k, (G k ∨ k = vb) → k < w.heap.size → F k ∧ some k ≠ v.ownBlock from fun k hk hlt => hk.elim (fun h => hG k h hlt) (fun h => h ▸ ⟨hFv, hvb⟩))
    have HL := Lib.hid hl
    have HB := Lib.hid hbase
    obtain ⟨xs, hrow, hch⟩ := hown
    rcases hrow.2 with ⟨rfl, h0⟩ | ⟨g, c, cur, rfl, hb, hh, hnc, hcm, hcs, ht⟩
    · obtain rfl : l = [] := List.length_eq_zero_iff.1 h0
      clear hrow hch h0 hi0 hz0 hz1 hz2 hone hvb hG hv hx hl hi hbase hvw
      go_enter Tryz.func118, Tryz.ntmps118
      go_wp2_with (at_builtin; go_must (refine wpList_appAll gAt rfl (.tmp 23) (.tmp 24) 22 rfl base 83 i0 _ 3 40 Tryz.underlying22 HJ.out HZ0.out HZ1.out HZ2.out rfl (by omega) (F := F) (G := fun k => G k ∨ k = vb) (.slice none 0 0) [] rfl HO.out (.slice (some ⟨vb, 0, none⟩) 1 1) [x] rfl HONE.out one_at HGG.out (c_len HL.out) (c_byt HL.out) HB.out ?_; intro v9 w9 hown9 hg9 hat9; obtain ⟨a9, n9, c9, rfl⟩ := osl_slice hown9))
      go_ret
      exact ⟨_, rfl, hown9, hg9, hat9⟩
    · have hcmI : l.length ≤ 9223372036854775807 := by omega
      have hii : (0 : Int) ≤ (l.length : Int) := Int.natCast_nonneg _
      have hncI : (l.length : Int) ≤ (c : Int) := by exact_mod_cast hnc
      clear hrow hch hi0 hz0 hz1 hz2 hone hvb hG hv hx hi hbase hvw hh hcs ht hcm hb
      go_enter Tryz.func118, Tryz.ntmps118
      go_wp2_with (at_builtin; go_must (refine wpList_appAll gAt rfl (.tmp 23) (.tmp 24) 22 rfl base 83 i0 _ 3 40 Tryz.underlying22 HJ.out HZ0.out HZ1.out HZ2.out rfl (by omega) (F := F) (G := fun k => G k ∨ k = vb) (.slice (some ⟨g, 0, none⟩) l.length c) l rfl HO.out (.slice (some ⟨vb, 0, none⟩) 1 1) [x] rfl HONE.out one_at HGG.out (c_len HL.out) (c_byt HL.out) HB.out ?_; intro v9 w9 hown9 hg9 hat9; obtain ⟨a9, n9, c9, rfl⟩ := osl_slice hown9))
      all_goals go_ret
      all_goals exact ⟨_, rfl, hown9, hg9, hat9⟩
  · obtain ⟨xs, hrow, hch⟩ := hown
    have h1 := at_row hch
    rcases hrow.2 with ⟨rfl, h0⟩ | ⟨g, c, cur, rfl, hb, hh, hnc, hcm, hcs, ht⟩
    · omega
    · have hne : vb ≠ g := fun e => hvb (congrArg some e)
      have hxl : l.take i ++ x :: l.drop i = l.take i ++ [x] ++ l.drop i := by simp
      have hcs' : Chunks RAt 3 (fun k => F k ∧ some k ≠ some g) w (xs.take (i * 3) ++ [x0, x1, x2] ++ xs.drop (i * 3)) (l.take i ++ x :: l.drop i) := by
        rw [hxl]
        exact chunks_app (chunks_app (chunks_take hch hi) (chunks_one rfl (gAt.more hG hx))) (chunks_drop hch hi)
      have hlen : (l.take i ++ x :: l.drop i).length = l.length + 1 := by simp; omega
      subst ht
      by_cases hroom : l.length + 1 ≤ c
      · refine (insert_shift hh (by omega) hroom (by unfold maxLen at hcm; omega) hcs hv hne h1 h1v hl).mono ?_
        rintro e w' ⟨rfl, row, hrs, hrt, hrh, hgr⟩
        refine ⟨_, rfl, ⟨_, ⟨hcs'.1, .inr ⟨g, c, row, by rw [hlen], hb, hrh, by rw [hlen]; exact hroom, hcm, hrs, by rw [hlen]; exact hrt⟩⟩, ?_⟩, hgr, .inl rfl⟩
        exact chunks_keep gAt ⟨hgr.size, fun k hk hlt => hgr.block k hlt hk.2⟩ hcs'
      · refine (insert_grow hh (by omega) hnc (by omega) (by unfold maxLen at hcm; omega) hcs hv h1 h1v hl).mono ?_
        rintro e w' ⟨G', rfl, hG1, hG2, row, hrs, hrt, hrh, hgr⟩
        refine ⟨_, rfl, ⟨_, ⟨hcs'.1, .inr ⟨w.heap.size, G', row, by rw [hlen], hbase, hrh, by rw [hlen]; exact hG1, hG2, hrs, by rw [hlen]; exact hrt⟩⟩, ?_⟩, ⟨hgr.os, hgr.tape, hgr.output, hgr.size, fun k hlt _ => hgr.block k hlt (by simp)⟩, .inr rfl⟩
        exact chunks_keep gAt ⟨hgr.size, fun k hk hlt => hgr.block k hlt (by simp)⟩ (chunks_more gAt (fun k hk hlt => ⟨hk.1, fun e => by have e' : k = w.heap.size := by simpa [Value.ownBlock] using e
                                                                                                                                         omega⟩) hcs')
end Go.Proofs.YtfgfdohppgoajaaGreat
/- Rows of one's own: an element written, elements cleared. -/
namespace Go.Proofs.YtfgfdohppgoajaaGreat
open Go Go.RowKit Go.BigFrame Cp

section
variable {P : Program}
theorem zeros_len (z : Array Value) (n : Nat) : (Builtin.zeroCells z n).toList.length = n * z.size := by simp [Builtin.zeroCells]
theorem zeros_mem {z : Array Value} {n : Nat} {v : Value} (h : v ∈ (Builtin.zeroCells z n).toList) : v ∈ z.toList := by
  simp only [Builtin.zeroCells, Array.toList_map, List.mem_map] at h
  obtain ⟨i, hi, rfl⟩ := h
  have hi' : i < n * z.size := by simpa using hi
  have hz : 0 < z.size := by
    rcases Nat.eq_zero_or_pos z.size with h0 | h0
    · rw [h0] at hi'; omega
    · exact h0
  rw [getElem!_pos z (i % z.size) (Nat.mod_lt _ hz)]
  simp
/-- clear, of elements of any size: the row's head stays -/
theorem run_clearN (w : World) (dT ty elem : TypeId) (z : Value) (g o n cap : Nat) (cur : Array Value) (t : TypeId) (hu : P.underlying dT = some (.slice elem)) (hv : ∀ w, (zeroValue elem).run P w = .ok z w) (hn : 0 < n)
    (hg : w.heap[g]? = some (.cells cur t (0, 0))) (hfit : o + n * z.cells.size ≤ cur.size) (h1 : ∀ v ∈ z.cells.toList, v.oneCell' = true) :
    (Builtin.clear_ #[dT] ty #[.slice (some ⟨g, o, none⟩) n cap]).run P w = .ok (.tuple #[]) (w.setRow g (cur.toList.take o ++ (Builtin.zeroCells z.cells n).toList ++ cur.toList.drop (o + (Builtin.zeroCells z.cells n).toList.length)).toArray) := by
  obtain ⟨zs, hz⟩ : ∃ zs, zs = (Builtin.zeroCells z.cells n).toList := ⟨_, rfl⟩
  have hl : zs.length = n * z.cells.size := by rw [hz, zeros_len]
  have hst := run_storeCells_at P g o t zs 0 cur w hg (by simpa [hl] using hfit) (fun v hv => h1 v (zeros_mem (by rw [← hz]; exact hv)))
  obtain ⟨m, rfl⟩ : ∃ m, n = m + 1 := ⟨n - 1, by omega⟩
  rw [← hz]
  simp [Builtin.clear_, run_underlying hu, hv, ← hz, hst]
end
theorem osl_set3 {α : Type} {R : Rd α} (g : Cp.Good R) {e base : TypeId} {F : Nat → Prop} {w : World} {b n c : Nat} {l : List α} (h : OSl R 3 e base F w (.slice (some ⟨b, 0, none⟩) n c) l) {i : Nat} (hi : i < l.length) {x : α} {u0 u1 u2 : Value} (hx : R (fun k => F k ∧ k ≠ b) w [u0, u1, u2] x) :
    OSl R 3 e base F (((w.setCell ⟨b, i * 3, none⟩ u0).setCell ⟨b, i * 3 + 1, none⟩ u1).setCell ⟨b, i * 3 + 2, none⟩ u2) (.slice (some ⟨b, 0, none⟩) n c) (l.set i x) := by
  have hn : n = l.length := (osl_len h).1
  subst hn
  obtain ⟨xs, h1, h2⟩ := h
  have s0 := World.ownsRow.stored h1 (i * 3) u0
  have s1 := World.ownsRow.stored s0.1 (i * 3 + 1) u1
  have s2 := World.ownsRow.stored s1.1 (i * 3 + 2) u2
  have hxl : xs.length = l.length * 3 := h2.1
  have hkeep : Keeps (fun k => F k ∧ some k ≠ (Value.slice (some ⟨b, 0, none⟩) l.length c).ownBlock) w (((w.setCell ⟨b, i * 3, none⟩ u0).setCell ⟨b, i * 3 + 1, none⟩ u1).setCell ⟨b, i * 3 + 2, none⟩ u2) :=
    keeps_set (keeps_set (keeps_set keeps_refl (fun _ hp => hp.2 rfl) _) (fun _ hp => hp.2 rfl) _) (fun _ hp => hp.2 rfl) _
  have hx' : R (fun k => F k ∧ some k ≠ (Value.slice (some ⟨b, 0, none⟩) l.length c).ownBlock) w [u0, u1, u2] x := g.more (fun k hk _ => ⟨hk.1, fun e => hk.2 (by simpa [Value.ownBlock] using e)⟩) hx
  refine ⟨((xs.set (i * 3) u0).set (i * 3 + 1) u1).set (i * 3 + 2) u2, by simpa using s2.1, by simp [h2.1], fun k y hk => ?_⟩
  by_cases hki : k = i
  · subst hki
    rw [List.getElem?_set_self hi] at hk
    have : x = y := by simpa using hk
    subst this
    have e : ((((xs.set (k * 3) u0).set (k * 3 + 1) u1).set (k * 3 + 2) u2).drop (k * 3)).take 3 = [u0, u1, u2] := by
      apply List.ext_getElem?
      intro m
      match m with
      | 0 =>
        rw [List.getElem?_take_of_lt (by omega), List.getElem?_drop]
        show (((xs.set (k * 3) u0).set (k * 3 + 1) u1).set (k * 3 + 2) u2)[k * 3]? = some u0
        rw [List.getElem?_set_ne (by omega), List.getElem?_set_ne (by omega), List.getElem?_set_self (by omega)]
      | 1 => rw [List.getElem?_take_of_lt (by omega), List.getElem?_drop, List.getElem?_set_ne (by omega), List.getElem?_set_self (by simp; omega)]; rfl
      | 2 => rw [List.getElem?_take_of_lt (by omega), List.getElem?_drop, List.getElem?_set_self (by simp; omega)]; rfl
      | m + 3 => rw [List.getElem?_eq_none (by simp; omega), List.getElem?_eq_none (by simp)]
    rw [e]
    exact g.keep hkeep hx'
  · rw [List.getElem?_set_ne (Ne.symm hki)] at hk
    have h3 := g.keep hkeep (h2.2 k y hk)
    have e : ((((xs.set (i * 3) u0).set (i * 3 + 1) u1).set (i * 3 + 2) u2).drop (k * 3)).take 3 = (xs.drop (k * 3)).take 3 := by
      apply List.ext_getElem?
      intro m
      by_cases hm : m < 3
      · rw [List.getElem?_take_of_lt hm, List.getElem?_take_of_lt hm, List.getElem?_drop, List.getElem?_drop, List.getElem?_set_ne (by omega), List.getElem?_set_ne (by omega), List.getElem?_set_ne (by omega)]
      · rw [List.getElem?_eq_none (by simp; omega), List.getElem?_eq_none (by simp; omega)]
    rw [e]; exact h3
theorem oat_all {e base : Nat} {F : Nat → Prop} {w : World} {a : Option Addr} {n c : Nat} {q : List At} (h : OSl RAt 3 e base F w (.slice a n c) q) {i : Nat} (hi : i < q.length) :
    ∃ g p d s ap cp, a = some ⟨g, 0, none⟩ ∧ base ≤ g ∧ g < w.heap.size ∧ q[i]? = some ((p, d), s) ∧ RSl RStp 2 (fun k => F k ∧ k ≠ g) w (.slice ap p.length cp) p ∧ I64 d ∧
      w.cell? ⟨g, i * 3, none⟩ = some (.slice ap p.length cp) ∧ w.cell? ⟨g, i * 3 + 1, none⟩ = some (.int .i64 d) ∧ w.cell? ⟨g, i * 3 + 2, none⟩ = some (.int .u8 (s : UInt8).toNat) ∧ ∀ o, w.frozen? ⟨g, o, none⟩ = false := by
  obtain ⟨g, x, cs, _, ha, hb, hs, hx, _, hr, ⟨v, rfl, h1, h2⟩, hf⟩ := osl_at h hi
  obtain ⟨ap, np, cp, rfl⟩ := h1.slice
  obtain ⟨rfl, _, _⟩ := h1.len
  obtain ⟨⟨p, d⟩, s⟩ := x
  exact ⟨g, p, d, s, ap, cp, ha, hb, hs, hx, h1, h2, by simpa using hr 0 _ rfl, by simpa [Nat.add_assoc] using hr 1 _ rfl, by simpa [Nat.add_assoc] using hr 2 _ rfl, hf⟩
theorem ext_row {a w : World} (h : Ext a w) {g : Nat} {R : Array Value} (hg : a.heap.size ≤ g) : Ext a (w.setRow g R) := by
  have h' : Below a.heap.size a w := h
  exact ⟨h'.os, h'.tape, h'.output, Nat.le_trans h'.size (by simp), fun k hk => (setRow_other w g k R (by omega)).trans (h'.block k hk)⟩
end Go.Proofs.YtfgfdohppgoajaaGreat
/- slices.Delete, of one atom. -/
namespace Go.Proofs.YtfgfdohppgoajaaGreat
open Go Go.RowKit Go.BigFrame Cp

section
variable {P : Program}
theorem step_appR {ops : Array Oper} {o : Oper} {a : Act} {w : World} {K : Act → World → Prop} {Q : Exit → Act → World → Prop} {E : Prop}
    (hg : o.guard = none) (d s : Operand) (t t' : TypeId) (ho : o.op = .call { callee := .builtin .append, args := #[d, s], argTypes := #[t, t'] })
    (v u : Value) (hd : a.eval d = v) (hs : a.eval s = u) {v' : Value} {w' : World} (hr : (Builtin.append_ #[t, t'] o.type #[v, u]).run P w = .ok v' w') (hK : K (a.put o.dst v') w') :
    if Region.wanted o (yielded ops a.tmps) = true then Oper.wp P o a w K Q else E := by
  have hw : Region.wanted o (yielded ops a.tmps) = true := by simp [Region.wanted, hg]
  rw [if_pos hw]
  unfold Oper.wp execOp
  simp only [ho, resolve, invoke, builtin, Sem.run_bind, Sem.run_pure, Result.andThen_ok, List.map_toArray, List.map_cons, List.map_nil, hd, hs, hr]
  exact hK
/-- append where there is room: the row, written -/
theorem run_appR (w : World) (t ty e : TypeId) (i : TypeInfo) (sz g o n cap : Nat) (cur : Array Value) (te : TypeId) (a : Addr) (m c : Nat) (news : List Value) (ht : P.underlying t = some (.slice e)) (hi : P.info? e = some i) (hs : i.size = sz)
    (hl : news.length = m * sz) (hnews : ∀ j u, news[j]? = some u → w.cell? (a.add j) = some u) (h1 : ∀ u ∈ news, u.oneCell' = true) (hroom : n + m ≤ cap) (hg : w.heap[g]? = some (.cells cur te (0, 0))) (hfit : o + n * sz + news.length ≤ cur.size) :
    (Builtin.append_ #[t, t] ty #[.slice (some ⟨g, o, none⟩) n cap, .slice (some a) m c]).run P w = .ok (.slice (some ⟨g, o, none⟩) (n + m) cap) (w.setRow g (cur.toList.take (o + n * sz) ++ news ++ cur.toList.drop (o + n * sz + news.length)).toArray) := by
  subst hs
  have hfc := run_firstCells_some (P := P) w i.size m a m c news hl hnews
  have hst := run_storeCells_at P g (o + n * i.size) te news 0 cur w hg (by simpa using hfit) h1
  simp only [Nat.add_zero] at hst
  simp [Builtin.append_, run_underlying ht, sizeOf, typeInfo, hi, Builtin.lenOf, hroom, hfc, Addr.add_lit, hst]
end
set_option maxRecDepth 100000 in
set_option maxHeartbeats 4000000 in
theorem delRow_any {w : World} {g n c i : Nat} {cur : Array Value} {i0 : TypeInfo} (hi0 : Tryz.prog.info? 83 = some i0) (hz0 : i0.zero = some (.agg #[.slice none 0 0, .int .i64 0, .int .u8 0])) (hz1 : i0.size = 3) (hg : w.heap[g]? = some (.cells cur 83 (0, 0))) (hi : i < n) (hnc : n ≤ c) (hcm : c ≤ 9223372036854775807) (hcs : cur.size = c * 3)
    (h1 : ∀ v ∈ cur.toList.take (n * 3), v.oneCell' = true) (hn3 : n ≤ 1000) :
    Calls Tryz.prog 143 #[.slice (some ⟨g, 0, none⟩) n c, .int .i64 i, .int .i64 ((i : Int) + 1)] w fun e w' => e = .returned (.slice (some ⟨g, 0, none⟩) (n - 1) c) ∧
      ∃ row : Array Value, row.size = c * 3 ∧ row.toList.take ((n - 1) * 3) = (cur.toList.take (n * 3)).take (i * 3) ++ (cur.toList.take (n * 3)).drop ((i + 1) * 3) ∧ w'.heap[g]? = some (.cells row 83 (0, 0)) ∧ w.grownBy w' (some g) := by
  have hA : cur.toList.length = c * 3 := by simpa using hcs
  obtain ⟨news, hnews⟩ : ∃ news, news = (cur.toList.take (n * 3)).drop ((i + 1) * 3) := ⟨_, rfl⟩
  have hnl : news.length = (n - (i + 1)) * 3 := by rw [hnews, List.length_drop, List.length_take]; omega
  have hn1 : ∀ v ∈ news, v.oneCell' = true := fun v hv => h1 v (by rw [hnews] at hv; exact List.mem_of_mem_drop hv)
  have hnr : ∀ W : World, W.heap[g]? = some (.cells cur 83 (0, 0)) → ∀ j u, news[j]? = some u → W.cell? ⟨g, (i + 1) * 3 + j, none⟩ = some u := fun W hW j u hj => by
    refine cell_row hW ?_
    rw [hnews, List.getElem?_drop, List.getElem?_take] at hj
    split at hj
    · exact hj
    · cases hj
  obtain ⟨R1, hR1⟩ : ∃ R1 : Array Value, R1 = (cur.toList.take (i * 3) ++ news ++ cur.toList.drop (i * 3 + news.length)).toArray := ⟨_, rfl⟩
  have hfit : i * 3 + news.length ≤ c * 3 := by rw [hnl]; omega
  have hR1s : R1.size = c * 3 := by rw [hR1, List.size_toArray, row_size (by omega)]; exact hA
  have hR1t : R1.toList.take ((n - 1) * 3) = (cur.toList.take (n * 3)).take (i * 3) ++ (cur.toList.take (n * 3)).drop ((i + 1) * 3) := by
    rw [hR1, List.toList_toArray, ← hnews, List.take_take, Nat.min_eq_left (by omega)]
    exact List.take_left' (by rw [List.length_append, List.length_take, hnl]; omega)
  obtain ⟨R2, hR2⟩ : ∃ R2 : Array Value, R2 = (R1.toList.take ((n - 1) * 3) ++ (Builtin.zeroCells (Value.agg #[.slice none 0 0, .int .i64 0, .int .u8 0]).cells 1).toList ++ R1.toList.drop ((n - 1) * 3 + (Builtin.zeroCells (Value.agg #[.slice none 0 0, .int .i64 0, .int .u8 0]).cells 1).toList.length)).toArray := ⟨_, rfl⟩
  have hzl : (Builtin.zeroCells (Value.agg #[.slice none 0 0, .int .i64 0, .int .u8 0]).cells 1).toList.length = 3 := by rw [zeros_len]; rfl
  have hR1l : R1.toList.length = c * 3 := by simpa using hR1s
  have hR2s : R2.size = c * 3 := by rw [hR2, List.size_toArray, row_size (by rw [hzl]; omega)]; exact hR1l
  have hR2t : R2.toList.take ((n - 1) * 3) = (cur.toList.take (n * 3)).take (i * 3) ++ (cur.toList.take (n * 3)).drop ((i + 1) * 3) := by
    rw [hR2, List.toList_toArray, List.append_assoc, List.take_left' (by rw [List.length_take]; omega)]
    exact hR1t
  have hzv : ∀ w, (zeroValue 83).run Tryz.prog w = .ok (.agg #[.slice none 0 0, .int .i64 0, .int .u8 0]) w := fun w => by simp [zeroValue, typeInfo, hi0, hz0]
  have hcl : ∀ (W : World), W.heap[g]? = some (.cells R1 83 (0, 0)) → ∀ ty cap', (Builtin.clear_ #[22] ty #[.slice (some ⟨g, (n - 1) * 3, none⟩) 1 cap']).run Tryz.prog W = .ok (.tuple #[]) (W.setRow g R2) := fun W hW ty cap' => by
    rw [hR2]
    exact run_clearN W _ ty _ _ g ((n - 1) * 3) 1 cap' R1 83 Tryz.underlying22 hzv (by omega) hW (by rw [hR1s]; show (n - 1) * 3 + 1 * 3 ≤ c * 3; omega) (by intro v hv; simp [Value.cells] at hv; rcases hv with rfl | rfl | rfl <;> rfl)
  have hcl1 := hcl (w.drew.setRow g R1) (setRow_heap w.drew g cur R1 _ _ hg)
  have HG := Lib.hid hg
  have hin : i ≤ n := by omega
  have hii0 : (0 : Int) ≤ (i : Int) := Int.natCast_nonneg i
  have hii1 : (0 : Int) ≤ (i : Int) + 1 := by omega
  have hii2 : (i : Int) ≤ (i : Int) + 1 := by omega
  have hii3 : (i : Int) + 1 ≤ (n : Int) := by omega
  have hii4 : (n : Int) ≤ (c : Int) := by omega
  have hii5 : (i : Int) ≤ (c : Int) := by omega
  have hii6 : ¬ ((i : Int) = (i : Int) + 1) := by omega
  have hii7 : (i : Int) ≤ (n : Int) := by omega
  have hii8 : ((n - 1 : Nat) : Int) ≤ (n : Int) := by omega
  have hii9 : (0 : Int) ≤ ((n - 1 : Nat) : Int) := Int.natCast_nonneg _
  have htn : ((i : Int) + 1).toNat = i + 1 := by omega
  have hsum : i + (n - (i + 1)) = n - 1 := by omega
  have hsub : n - (n - 1) = 1 := by omega
  have hic : i ≤ c := by omega
  have hic1 : i + 1 ≤ c := by omega
  have hn1c : n - 1 ≤ c := by omega
  have hn1n : n - 1 ≤ n := Nat.sub_le _ _
  have hcn : ¬ c = n - 1 := by omega
  by_cases hce : c = i + 1
  · have hm0 : n - (i + 1) = 0 := by omega
    have hap : ∀ W : World, W.heap[g]? = some (.cells cur 83 (0, 0)) → ∀ ty c2, (Builtin.append_ #[22, 22] ty #[.slice (some ⟨g, 0, none⟩) i c, .slice (some ⟨g, 0, none⟩) (n - (i + 1)) c2]).run Tryz.prog W = .ok (.slice (some ⟨g, 0, none⟩) (n - 1) c) (W.setRow g R1) := fun W hW ty c2 => by
      have h9 := run_appR W 22 ty 83 i0 3 g 0 i c cur 83 ⟨g, 0, none⟩ (n - (i + 1)) c2 news Tryz.underlying22 hi0 hz1 hnl (fun j u hj => by
        have : news = [] := List.eq_nil_of_length_eq_zero (by rw [hnl, hm0])
        rw [this] at hj; simp at hj) hn1 (by omega) hW (by rw [hcs]; omega)
      rw [h9, hsum, Nat.zero_add, hR1]
    have HAP := Lib.hid hap
    clear hap hcl hnr hn1 hR1t hR1s hR1l hzv hnl hfit hA hcs h1 hR1 hR2 hzl hnews hn3 hi0 hz0 hz1 hg hcm hm0
    go_enter Tryz.func143, Tryz.ntmps143
    go_wp2_with fail
    go_region_law (refine step_appR rfl (.tmp 22) (.tmp 25) 22 22 rfl (.slice (some ⟨g, 0, none⟩) i c) (.slice (some ⟨g, 0, none⟩) (n - (i + 1)) (c - (i + 1))) (by simp [Act.eval, Act.put] <;> omega) (by simp [Act.eval, Act.put, *] <;> omega) (HAP.out w.drew HG.out _ _) ?_)
    all_goals go_wp2_with fail
    all_goals go_ret
    all_goals exact ⟨(by rw [hce] <;> rfl), R2, hR2s, hR2t, setRow_heap _ g R1 R2 _ _ (setRow_heap w.drew g cur R1 _ _ HG.out), ⟨rfl, rfl, rfl, by simp, fun k _ hk => (setRow_other _ g k R2 (fun e => hk (congrArg some e))).trans (setRow_other w.drew g k R1 (fun e => hk (congrArg some e)))⟩⟩
  · have hap : ∀ W : World, W.heap[g]? = some (.cells cur 83 (0, 0)) → ∀ ty c2, (Builtin.append_ #[22, 22] ty #[.slice (some ⟨g, 0, none⟩) i c, .slice (some ⟨g, (i + 1) * 3, none⟩) (n - (i + 1)) c2]).run Tryz.prog W = .ok (.slice (some ⟨g, 0, none⟩) (n - 1) c) (W.setRow g R1) := fun W hW ty c2 => by
      have h9 := run_appR W 22 ty 83 i0 3 g 0 i c cur 83 ⟨g, (i + 1) * 3, none⟩ (n - (i + 1)) c2 news Tryz.underlying22 hi0 hz1 hnl (fun j u hj => by
        rw [add_lit']; exact hnr W hW j u hj) hn1 (by omega) hW (by rw [hcs]; omega)
      rw [h9, hsum, Nat.zero_add, hR1]
    have HAP := Lib.hid hap
    clear hap hcl hnr hn1 hR1t hR1s hR1l hzv hnl hfit hA hcs h1 hR1 hR2 hzl hnews hn3 hi0 hz0 hz1 hg hcm
    go_enter Tryz.func143, Tryz.ntmps143
    go_wp2_with fail
    go_region_law (refine step_appR rfl (.tmp 22) (.tmp 25) 22 22 rfl (.slice (some ⟨g, 0, none⟩) i c) (.slice (some ⟨g, (i + 1) * 3, none⟩) (n - (i + 1)) (c - (i + 1))) (by simp [Act.eval, Act.put]) (by simp [Act.eval, Act.put, *]) (HAP.out w.drew HG.out _ _) ?_)
    all_goals go_wp2_with fail
    all_goals go_ret
    all_goals exact ⟨rfl, R2, hR2s, hR2t, setRow_heap _ g R1 R2 _ _ (setRow_heap w.drew g cur R1 _ _ HG.out), ⟨rfl, rfl, rfl, by simp, fun k _ hk => (setRow_other _ g k R2 (fun e => hk (congrArg some e))).trans (setRow_other w.drew g k R1 (fun e => hk (congrArg some e)))⟩⟩
theorem deleteAt_any {base : Nat} {F : Nat → Prop} {w : World} {v : Value} {l : List At} {i : Nat} (hown : OSl RAt 3 83 base F w v l) (hi : i < l.length) (hl : l.length ≤ 1000) :
    Calls Tryz.prog 143 #[v, .int .i64 i, .int .i64 ((i : Int) + 1)] w fun e w' => ∃ v', e = .returned v' ∧ OSl RAt 3 83 base F w' v' (l.take i ++ l.drop (i + 1)) ∧ w.grownBy w' v.ownBlock ∧ v'.ownBlock = v.ownBlock := by
  obtain ⟨i0, hi0, hz0, hz1, hz2⟩ := info_parts c_info
  obtain ⟨xs, hrow, hch⟩ := hown
  have h1 := at_row hch
  rcases hrow.2 with ⟨rfl, h0⟩ | ⟨g, c, cur, rfl, hb, hh, hnc, hcm, hcs, ht⟩
  · omega
  · subst ht
    refine (delRow_any hi0 hz0 hz1 hh hi hnc (by unfold maxLen at hcm; omega) hcs h1 hl).mono ?_
    rintro e w' ⟨rfl, row, hrs, hrt, hrh, hgr⟩
    have hlen : (l.take i ++ l.drop (i + 1)).length = l.length - 1 := by simp; omega
    have hc2 := chunks_app (chunks_take hch (Nat.le_of_lt hi)) (chunks_drop hch (i := i + 1) hi)
    refine ⟨_, rfl, ⟨_, ⟨hc2.1, .inr ⟨g, c, row, by rw [hlen], hb, hrh, by rw [hlen]; omega, hcm, hrs, by rw [hlen]; exact hrt⟩⟩, ?_⟩, hgr, rfl⟩
    exact chunks_keep gAt ⟨hgr.size, fun k hk hlt => hgr.block k hlt hk.2⟩ hc2
end Go.Proofs.YtfgfdohppgoajaaGreat
/- slices.Insert, of one mark, into marks of one's own. -/
namespace Go.Proofs.YtfgfdohppgoajaaGreat
open Go Go.RowKit Go.BigFrame Cp

theorem row_shiftG {A ys : List Value} {p q r : Nat} (hr : r = p + 2) (hy : ys.length = 2) (h1 : p ≤ q) (h2 : q + 2 ≤ A.length) :
    ((A.take r ++ (A.take q).drop p ++ A.drop (r + ((A.take q).drop p).length)).take p ++ ys ++ (A.take r ++ (A.take q).drop p ++ A.drop (r + ((A.take q).drop p).length)).drop (p + 2)).take (q + 2) = (A.take q).take p ++ ys ++ (A.take q).drop p := by
  subst hr
  have e1 : (A.take (p + 2) ++ (A.take q).drop p ++ A.drop (p + 2 + ((A.take q).drop p).length)).take p = A.take p := by
    rw [List.append_assoc, List.take_append_of_le_length (by rw [List.length_take]; omega), List.take_take]; congr 1; omega
  have e2 : (A.take (p + 2) ++ (A.take q).drop p ++ A.drop (p + 2 + ((A.take q).drop p).length)).drop (p + 2) = (A.take q).drop p ++ A.drop (p + 2 + ((A.take q).drop p).length) := by
    rw [List.append_assoc]; exact List.drop_left' (by rw [List.length_take]; omega)
  have e3 : (A.take q).take p = A.take p := by rw [List.take_take]; congr 1; omega
  rw [e1, e2, e3, ← List.append_assoc]
  exact List.take_left' (by simp only [List.length_append, List.length_take, List.length_drop, hy]; omega)
theorem row_growG {A ys zs : List Value} {p r k : Nat} (hr : r = p + 2) (hy : ys.length = 2) (hk : k = r + zs.length) (h2 : p + 2 + zs.length ≤ A.length) :
    ((A.take p ++ ys ++ A.drop (p + ys.length)).take r ++ zs ++ (A.take p ++ ys ++ A.drop (p + ys.length)).drop (r + zs.length)).take k = A.take p ++ ys ++ zs := by
  subst hr hk
  have e1 : (A.take p ++ ys ++ A.drop (p + ys.length)).take (p + 2) = A.take p ++ ys := List.take_left' (by rw [List.length_append, List.length_take]; omega)
  rw [e1]
  exact List.take_left' (by simp only [List.length_append, List.length_take, hy]; omega)
theorem c_info_sizeG : (Tryz.prog.info? 47).map (·.size) = some 2 := by kernel_rfl
theorem min3G {n i : Nat} (hi : i < n) : ((n - i) * 2 = Nat.min (n + 1 - i) (n - i) * 2) := by
  congr 1
  simp only [Nat.min_def]; split <;> omega
theorem zs_lenG {A : List Value} {i n : Nat} (hi : i < n) (h : n * 2 ≤ A.length) : ((A.take (n * 2)).drop (i * 2)).length = (n - i) * 2 := by
  rw [List.length_drop, List.length_take]; omega
theorem apart_falseG (w : World) (vb g o n c lb cb : Nat) {cur row : Array Value} {te tg : TypeId} (hv : w.heap[vb]? = some (.cells row te (0, 0))) (hg : w.heap[g]? = some (.cells cur tg (0, 0))) (h0 : cur.size ≠ 0) (hne : vb ≠ g) :
    (callFunc 148 #[.slice (some ⟨vb, 0, none⟩) n c, .slice (some ⟨g, o, none⟩) lb cb]).run Tryz.prog w = .ok (.value (.bool false)) w := by
  rw [run_callFunc_extern Tryz.func148 (by kernel_rfl) (by kernel_rfl) (by kernel_rfl) (e := Extern.SlicesOverlaps.overlaps #[23, 23] #[4]) (by kernel_rfl),
    Lib.run_overlaps_apart w 23 4 47 Tryz.underlying23 2 Tryz.sizeOf47 ⟨vb, 0, none⟩ ⟨g, o, none⟩ n c lb cb hne te tg row.size cur.size (by simp [World.shape?, hv]) (by simp [World.shape?, hg]) h0 (by simp [World.frozen?, hv]) (by simp [World.frozen?, hv])]
  rfl
set_option maxRecDepth 100000 in
set_option maxHeartbeats 4000000 in
theorem insert_shiftG {w : World} {g n c i vb : Nat} {cur : Array Value} {te : TypeId} {x0 x1 : Value} (hg : w.heap[g]? = some (.cells cur 47 (0, 0))) (hi : i < n) (hc : n + 1 ≤ c) (hcm : c ≤ 9223372036854775807) (hcs : cur.size = c * 2)
    (hv : w.heap[vb]? = some (.cells #[x0, x1] te (0, 0))) (hne : vb ≠ g) (h1 : ∀ v ∈ cur.toList.take (n * 2), v.oneCell' = true) (h1v : ∀ v ∈ [x0, x1], v.oneCell' = true) (hn3 : n ≤ 1000) :
    Calls Tryz.prog 144 #[.slice (some ⟨g, 0, none⟩) n c, .int .i64 i, .slice (some ⟨vb, 0, none⟩) 1 1] w fun e w' => e = .returned (.slice (some ⟨g, 0, none⟩) (n + 1) c) ∧
      ∃ row : Array Value, row.size = c * 2 ∧ row.toList.take ((n + 1) * 2) = (cur.toList.take (n * 2)).take (i * 2) ++ [x0, x1] ++ (cur.toList.take (n * 2)).drop (i * 2) ∧ w'.heap[g]? = some (.cells row 47 (0, 0)) ∧ w.grownBy w' (some g) := by
  have hA : cur.toList.length = c * 2 := by simpa using hcs
  have hz := zs_lenG (A := cur.toList) hi (by omega)
  obtain ⟨R1, hR1⟩ : ∃ R1 : Array Value, R1 = (cur.toList.take ((i + 1) * 2) ++ (cur.toList.take (n * 2)).drop (i * 2) ++ cur.toList.drop ((i + 1) * 2 + ((cur.toList.take (n * 2)).drop (i * 2)).length)).toArray := ⟨_, rfl⟩
  have hR1s : R1.size = c * 2 := by rw [hR1, List.size_toArray, row_size (by rw [hz]; omega)]; exact hA
  obtain ⟨R2, hR2⟩ : ∃ R2 : Array Value, R2 = (R1.toList.take (i * 2) ++ [x0, x1] ++ R1.toList.drop (i * 2 + [x0, x1].length)).toArray := ⟨_, rfl⟩
  have hR2s : R2.size = c * 2 := by rw [hR2, List.size_toArray, row_size (by simp; omega)]; simpa using hR1s
  have hR2t : R2.toList.take ((n + 1) * 2) = (cur.toList.take (n * 2)).take (i * 2) ++ [x0, x1] ++ (cur.toList.take (n * 2)).drop (i * 2) := by
    have hlen : [x0, x1].length = 2 := rfl
    rw [hR2, List.toList_toArray, hR1, List.toList_toArray, hlen]
    have := row_shiftG (A := cur.toList) (ys := [x0, x1]) (p := i * 2) (q := n * 2) (r := (i + 1) * 2) (by omega) rfl (by omega) (by omega)
    rw [show (n + 1) * 2 = n * 2 + 2 by omega]
    exact this
  have hcp1 : ∀ (W : World), W.heap[g]? = some (.cells cur 47 (0, 0)) → ∀ ty dc sc, (Builtin.copy_ #[23, 23] ty #[.slice (some ⟨g, (i + 1) * 2, none⟩) (n - i) dc, .slice (some ⟨g, i * 2, none⟩) (n + 1 - i) sc]).run Tryz.prog W = .ok (goInt (Nat.min (n + 1 - i) (n - i) : Nat)) (W.setRow g R1) := fun W hW ty dc sc => by
    rw [hR1]
    exact run_copyN W _ _ ty _ 2 g _ _ dc ⟨g, i * 2, none⟩ _ sc cur _ _ Tryz.underlying23 c_info_sizeG hW (by rw [hz]; exact min3G hi)
      (fun j v hj => by
        rw [add_lit']
        refine cell_row hW ?_
        rw [List.getElem?_drop, List.getElem?_take] at hj
        split at hj
        · exact hj
        · cases hj) (by rw [hz, hcs]; omega) (fun v hv => h1 v (List.mem_of_mem_drop hv))
  have hcp2 : ∀ (W : World), W.heap[g]? = some (.cells R1 47 (0, 0)) → W.heap[vb]? = some (.cells #[x0, x1] te (0, 0)) → ∀ ty dc, (Builtin.copy_ #[23, 23] ty #[.slice (some ⟨g, i * 2, none⟩) (n + 1 - i) dc, .slice (some ⟨vb, 0, none⟩) 1 1]).run Tryz.prog W = .ok (goInt (Nat.min 1 (n + 1 - i) : Nat)) (W.setRow g R2) := fun W hW hWv ty dc => by
    rw [hR2]
    exact run_copyN W _ _ ty _ 2 g _ _ dc ⟨vb, 0, none⟩ 1 1 R1 _ [x0, x1] Tryz.underlying23 c_info_sizeG hW (by rw [show Nat.min 1 (n + 1 - i) = 1 by simp only [Nat.min_def]; split <;> omega]; rfl)
      (fun j v hj => by rw [add_lit', Nat.zero_add]; exact cell_row hWv (by simpa using hj)) (by rw [hR1s]; simp; omega) h1v
  have hov : ∀ (W : World), W.heap[vb]? = some (.cells #[x0, x1] te (0, 0)) → W.heap[g]? = some (.cells cur 47 (0, 0)) → ∀ o lb cb, (callFunc 148 #[.slice (some ⟨vb, 0, none⟩) 1 1, .slice (some ⟨g, o, none⟩) lb cb]).run Tryz.prog W = .ok (.value (.bool false)) W := fun W h1 h2 o lb cb => apart_falseG W vb g o 1 1 lb cb h1 h2 (by omega) hne
  have hov := hov w hv hg
  have HC1 := Lib.hid hcp1
  have HC2 := Lib.hid hcp2
  have HG := Lib.hid hg
  have HV := Lib.hid hv
  have hwi : -9223372036854775808 ≤ (i : Int) + 1 ∧ (i : Int) + 1 ≤ 9223372036854775807 := by omega
  have hwn : -9223372036854775808 ≤ (n : Int) + 1 ∧ (n : Int) + 1 ≤ 9223372036854775807 := by omega
  have hz2 : ¬ ((i : Int) = (n : Int)) := by omega
  have hz3 : ¬ ((c : Int) < (n : Int) + 1) := by omega
  have hb1 : (0 : Int) ≤ (i : Int) + 1 := by omega
  have hb5 : (0 : Int) ≤ (n : Int) + 1 := by omega
  have hb0 : (0 : Int) ≤ (i : Int) := by omega
  have hin : i ≤ n := by omega
  have hinI : (i : Int) ≤ (n : Int) := by omega
  have htn : ((i : Int) + 1).toNat = i + 1 := by omega
  have htm : ((n : Int) + 1).toNat = n + 1 := by omega
  have hb2 : ¬ (c = i + 1) := by omega
  have hb3 : (i : Int) ≤ (n : Int) + 1 := by omega
  have hb6 : (i : Int) + 1 ≤ (n : Int) + 1 := by omega
  have hb7 : (n : Int) + 1 ≤ (c : Int) := by omega
  have hb4 : ¬ (c = i) := by omega
  clear hcp1 hcp2 hA hz hR1s h1 h1v hR1 hR2 hcs
  have hw1 : IntKind.i64.wrap ((i : Int) + 1) = (i : Int) + 1 := IntWalk.i64_in _ hwi
  have hw2 : IntKind.i64.wrap ((n : Int) + 1) = (n : Int) + 1 := IntWalk.i64_in _ hwn
  have hw3 : wrap64 ((i : Int) + 1) = (i : Int) + 1 := IntWalk.wrap64_in _ hwi
  have hw4 : wrap64 ((n : Int) + 1) = (n : Int) + 1 := IntWalk.wrap64_in _ hwn
  clear hwi hwn hcm
  go_enter Tryz.func144, Tryz.ntmps144
  go_wp2_with (simp only [hov])
  go_region_law (refine step_copyR rfl (.tmp 73) (.tmp 76) 23 23 rfl (.slice (some ⟨g, (i + 1) * 2, none⟩) (n - i) (c - (i + 1))) (.slice (some ⟨g, i * 2, none⟩) (n + 1 - i) (c - i)) (by simp [Act.eval, Act.put]) (by simp [Act.eval, Act.put]) (HC1.out w.drew HG.out 3 (c - (i + 1)) (c - i)) ?_)
  all_goals go_wp2_with ((with_reducible (show wpList _ _ _ (_ :: _) _ _)); (refine wpList_copyR _ rfl (.tmp 80) (.tmp 81) 23 23 rfl _ _ rfl rfl (HC2.out _ (setRow_heap w.drew g cur R1 _ _ HG.out) ((setRow_other w.drew g vb R1 hne).trans HV.out) _ _) ?_))
  all_goals go_ret
  all_goals exact ⟨rfl, R2, hR2s, hR2t, setRow_heap _ g R1 R2 _ _ (setRow_heap w.drew g cur R1 _ _ HG.out), ⟨rfl, rfl, rfl, by simp, fun k _ hk => (setRow_other _ g k R2 (fun e => hk (congrArg some e))).trans (setRow_other w.drew g k R1 (fun e => hk (congrArg some e)))⟩⟩
set_option maxRecDepth 100000 in
set_option maxHeartbeats 4000000 in
theorem insert_growG {w : World} {g n c i vb : Nat} {cur : Array Value} {te : TypeId} {x0 x1 : Value} (hg : w.heap[g]? = some (.cells cur 47 (0, 0))) (hi : i < n) (hnc : n ≤ c) (hc : c < n + 1) (hcm : c ≤ 9223372036854775807) (hcs : cur.size = c * 2)
    (hv : w.heap[vb]? = some (.cells #[x0, x1] te (0, 0))) (h1 : ∀ v ∈ cur.toList.take (n * 2), v.oneCell' = true) (h1v : ∀ v ∈ [x0, x1], v.oneCell' = true) (hn3 : n ≤ 1000) :
    Calls Tryz.prog 144 #[.slice (some ⟨g, 0, none⟩) n c, .int .i64 i, .slice (some ⟨vb, 0, none⟩) 1 1] w fun e w' => ∃ G, e = .returned (.slice (some ⟨w.heap.size, 0, none⟩) (n + 1) G) ∧ n + 1 ≤ G ∧ G ≤ maxLen ∧
      ∃ row : Array Value, row.size = G * 2 ∧ row.toList.take ((n + 1) * 2) = (cur.toList.take (n * 2)).take (i * 2) ++ [x0, x1] ++ (cur.toList.take (n * 2)).drop (i * 2) ∧ w'.heap[w.heap.size]? = some (.cells row 47 (0, 0)) ∧ w.grownBy w' none := by
  have hA : cur.toList.length = c * 2 := by simpa using hcs
  have hz := zs_lenG (A := cur.toList) hi (by omega)
  have hgw : g < w.heap.size := (Array.getElem?_eq_some_iff.1 hg).1
  have hvw : vb < w.heap.size := (Array.getElem?_eq_some_iff.1 hv).1
  obtain ⟨i0, hi0, hz0, hz1, hz2⟩ := info_parts cm_info
  obtain ⟨k, hk⟩ : ∃ k, n + 1 = i + k := ⟨n + 1 - i, by omega⟩
  have holdl : ((cur.toList.take (n * 2)).take (i * 2)).length = i * 2 := by rw [List.length_take, List.length_take]; omega
  have hold : (Builtin.firstCells i0.size i (.slice (some ⟨g, 0, none⟩) i c)).run Tryz.prog w.drew = .ok ((cur.toList.take (n * 2)).take (i * 2)).toArray w.drew := by
    rw [hz1]
    exact run_firstCells_some w.drew 2 i ⟨g, 0, none⟩ i c ((cur.toList.take (n * 2)).take (i * 2)) holdl (fun j v hj => by
      rw [add_lit', Nat.zero_add]
      refine cell_row (w := w.drew) hg ?_
      rw [List.getElem?_take] at hj
      split at hj
      · rw [List.getElem?_take] at hj
        split at hj
        · exact hj
        · cases hj
      · cases hj)
  obtain ⟨G, hG⟩ : ∃ G, G = grownCap w (n + 1) c 47 := ⟨_, rfl⟩
  have hGn : n + 1 ≤ G := by rw [hG]; exact grownCap_ge w _ _ _
  have hGm : G ≤ maxLen := by rw [hG]; exact grownCap_le_maxLen w _ _ _ (by unfold maxLen; omega)
  obtain ⟨ROW, hROW⟩ : ∃ ROW : Array Value, ROW = ((cur.toList.take (n * 2)).take (i * 2)).toArray ++ Builtin.zeroCells (Value.agg #[.slice none 0 0, .int .i64 0]).cells k ++ Builtin.zeroCells (Value.agg #[.slice none 0 0, .int .i64 0]).cells (G - (i + k)) := ⟨_, rfl⟩
  have hzc : (Value.agg #[.slice none 0 0, .int .i64 0]).cells.size = 2 := by rfl
  have hRs : ROW.size = G * 2 := by
    rw [hROW, Array.size_append, Array.size_append, List.size_toArray, holdl]
    simp only [Builtin.zeroCells, Array.size_map, Array.size_range, hzc]
    omega
  have hRt : ROW.toList.take (i * 2) = (cur.toList.take (n * 2)).take (i * 2) := by
    rw [hROW, Array.toList_append, Array.toList_append, List.toList_toArray, List.append_assoc]
    exact List.take_left' holdl
  have hrz : ∀ ty, (Builtin.append_ #[23, 3] ty #[.slice (some ⟨g, 0, none⟩) i c, .int .i64 ((n : Int) + 1 - (i : Int))]).run Tryz.prog w =
      .ok (.slice (some ⟨w.heap.size, 0, none⟩) (n + 1) G) (w.drew.alloc (.cells ROW 47)) := fun ty => by
    have h := Lib.run_append_grow_zeros w 23 3 ty 47 i0 _ .i64 .i64 Tryz.underlying23 Tryz.underlying3 hi0 hz0 (some ⟨g, 0, none⟩) i c _ hold k (by omega) (by omega) (by omega) (by omega) (by rw [hz2]; omega) (by rw [hz2]; exact growslice_fits (by omega) (by omega))
    rw [hROW, hG, show (n : Int) + 1 - (i : Int) = (k : Int) by omega]
    rw [← hk] at h ⊢
    exact h
  obtain ⟨R1, hR1⟩ : ∃ R1 : Array Value, R1 = (ROW.toList.take (i * 2) ++ [x0, x1] ++ ROW.toList.drop (i * 2 + [x0, x1].length)).toArray := ⟨_, rfl⟩
  have hRl : ROW.toList.length = G * 2 := by simpa using hRs
  have hR1s : R1.size = G * 2 := by rw [hR1, List.size_toArray, row_size (by rw [hRl]; simp; omega)]; exact hRl
  obtain ⟨R2, hR2⟩ : ∃ R2 : Array Value, R2 = (R1.toList.take ((i + 1) * 2) ++ (cur.toList.take (n * 2)).drop (i * 2) ++ R1.toList.drop ((i + 1) * 2 + ((cur.toList.take (n * 2)).drop (i * 2)).length)).toArray := ⟨_, rfl⟩
  have hR2s : R2.size = G * 2 := by rw [hR2, List.size_toArray, row_size (by rw [hz]; simp; omega)]; simpa using hR1s
  have hR2t : R2.toList.take ((n + 1) * 2) = (cur.toList.take (n * 2)).take (i * 2) ++ [x0, x1] ++ (cur.toList.take (n * 2)).drop (i * 2) := by
    rw [hR2, List.toList_toArray, hR1, List.toList_toArray]
    have h9 := row_growG (A := ROW.toList) (ys := [x0, x1]) (zs := (cur.toList.take (n * 2)).drop (i * 2)) (p := i * 2) (r := (i + 1) * 2) (k := (n + 1) * 2) (by omega) rfl (by rw [hz]; omega) (by rw [hz, hRl]; omega)
    rw [hRt] at h9
    rw [hRt]
    exact h9
  have hcp1 : ∀ (W : World), W.heap[w.heap.size]? = some (.cells ROW 47 (0, 0)) → W.heap[vb]? = some (.cells #[x0, x1] te (0, 0)) → ∀ ty dc, (Builtin.copy_ #[23, 23] ty #[.slice (some ⟨w.heap.size, i * 2, none⟩) (n + 1 - i) dc, .slice (some ⟨vb, 0, none⟩) 1 1]).run Tryz.prog W = .ok (goInt (Nat.min 1 (n + 1 - i) : Nat)) (W.setRow w.heap.size R1) := fun W hW hWv ty dc => by
    rw [hR1]
    exact run_copyN W _ _ ty _ 2 w.heap.size _ _ dc ⟨vb, 0, none⟩ 1 1 ROW _ [x0, x1] Tryz.underlying23 c_info_sizeG hW (by rw [show Nat.min 1 (n + 1 - i) = 1 by simp only [Nat.min_def]; split <;> omega]; rfl)
      (fun j v hj => by rw [add_lit', Nat.zero_add]; exact cell_row hWv (by simpa using hj)) (by rw [hRs]; simp; omega) h1v
  have hcp2 : ∀ (W : World), W.heap[w.heap.size]? = some (.cells R1 47 (0, 0)) → W.heap[g]? = some (.cells cur 47 (0, 0)) → ∀ ty dc sc, (Builtin.copy_ #[23, 23] ty #[.slice (some ⟨w.heap.size, (i + 1) * 2, none⟩) (n - i) dc, .slice (some ⟨g, i * 2, none⟩) (n - i) sc]).run Tryz.prog W = .ok (goInt (Nat.min (n - i) (n - i) : Nat)) (W.setRow w.heap.size R2) := fun W hW hWg ty dc sc => by
    rw [hR2]
    exact run_copyN W _ _ ty _ 2 w.heap.size _ _ dc ⟨g, i * 2, none⟩ _ sc R1 _ _ Tryz.underlying23 c_info_sizeG hW (by rw [hz]; congr 1; exact (Nat.min_self _).symm)
      (fun j v hj => by
        rw [add_lit']
        refine cell_row hWg ?_
        rw [List.getElem?_drop, List.getElem?_take] at hj
        split at hj
        · exact hj
        · cases hj) (by rw [hz, hR1s]; omega) (fun v hv => h1 v (List.mem_of_mem_drop hv))
  have HC1 := Lib.hid hcp1
  have HC2 := Lib.hid hcp2
  have HG := Lib.hid hg
  have HV := Lib.hid hv
  have hne1 : vb ≠ w.heap.size := by omega
  have hne2 : g ≠ w.heap.size := by omega
  have HN := Lib.hid (show (w.drew.alloc (.cells ROW 47)).heap[w.heap.size]? = some (.cells ROW 47 (0, 0)) from alloc_new' w.drew _)
  have HGN := Lib.hid (show (w.drew.alloc (.cells ROW 47)).heap[g]? = some (.cells cur 47 (0, 0)) from (alloc_old' w.drew _ hgw).trans hg)
  have HVN := Lib.hid (show (w.drew.alloc (.cells ROW 47)).heap[vb]? = some (.cells #[x0, x1] te (0, 0)) from (alloc_old' w.drew _ hvw).trans hv)
  have hki : (n : Int) + 1 - (i : Int) = (k : Int) := by omega
  have hwi : -9223372036854775808 ≤ (i : Int) + 1 ∧ (i : Int) + 1 ≤ 9223372036854775807 := by omega
  have hwn : -9223372036854775808 ≤ (n : Int) + 1 ∧ (n : Int) + 1 ≤ 9223372036854775807 := by omega
  have hz2' : ¬ ((i : Int) = (n : Int)) := by omega
  have hz3 : (c : Int) < (n : Int) + 1 := by omega
  have hb1 : (0 : Int) ≤ (i : Int) + 1 := by omega
  have hb5 : (0 : Int) ≤ (n : Int) + 1 := by omega
  have hb0 : (0 : Int) ≤ (i : Int) := by omega
  have hin : i ≤ n := by omega
  have hinI : (i : Int) ≤ (n : Int) := by omega
  have hicI : (i : Int) ≤ (c : Int) := by omega
  have htn : ((i : Int) + 1).toNat = i + 1 := by omega
  have htm : ((n : Int) + 1).toNat = n + 1 := by omega
  have hb3 : (i : Int) ≤ (n : Int) + 1 := by omega
  have hb6 : (i : Int) + 1 ≤ (n : Int) + 1 := by omega
  have hb4 : ¬ (c = i) := by omega
  have hGi : ¬ (G = i) := by omega
  have hGi1 : ¬ (G = i + 1) := by omega
  have hGk : (n : Int) + 1 ≤ (G : Int) := by omega
  clear hcp1 hcp2 hA hz hR1s h1 h1v hR1 hR2 hcs hROW hRs hRt hRl hG hold holdl hk hzc hi0 hz0 hz1 hz2
  have hw1 : IntKind.i64.wrap ((i : Int) + 1) = (i : Int) + 1 := IntWalk.i64_in _ hwi
  have hw2 : IntKind.i64.wrap ((n : Int) + 1) = (n : Int) + 1 := IntWalk.i64_in _ hwn
  have hw3 : wrap64 ((i : Int) + 1) = (i : Int) + 1 := IntWalk.wrap64_in _ hwi
  have hw4 : wrap64 ((n : Int) + 1) = (n : Int) + 1 := IntWalk.wrap64_in _ hwn
  have HGM := Lib.hid hGm
  have HRR := Lib.hid (And.intro hR2s hR2t)
  clear hwi hwn hcm hki hGm hR2s hR2t hgw hvw
  go_enter Tryz.func144, Tryz.ntmps144
  go_wp2_with (first
    | (at_builtin; go_must (refine Lib.wpList_append_run _ rfl _ _ _ _ rfl _ _ rfl rfl _ _ (hrz _) ?_))
    | ((with_reducible (show wpList _ _ _ (_ :: _) _ _)); (refine wpList_copyR _ rfl (.tmp 43) (.tmp 44) 23 23 rfl _ _ rfl rfl (HC1.out _ HN.out HVN.out _ _) ?_)))
  go_region_law (refine step_copyR rfl (.tmp 50) (.tmp 53) 23 23 rfl (.slice (some ⟨w.heap.size, (i + 1) * 2, none⟩) (n - i) (G - (i + 1))) (.slice (some ⟨g, i * 2, none⟩) (n - i) (c - i)) (by simp [Act.eval, Act.put]) (by simp [Act.eval, Act.put]) (HC2.out (((w.drew.alloc (.cells ROW 47)).setRow w.heap.size R1).drew) (setRow_heap _ w.heap.size ROW R1 _ _ HN.out) ((setRow_other _ w.heap.size g R1 hne2).trans HGN.out) 3 (G - (i + 1)) (c - i)) ?_)
  all_goals go_wp2
  all_goals go_ret
  all_goals exact ⟨G, rfl, hGn, HGM.out, R2, HRR.out.1, HRR.out.2, setRow_heap _ w.heap.size R1 R2 _ _ (setRow_heap _ w.heap.size ROW R1 _ _ HN.out), ⟨rfl, rfl, rfl, by simp, fun k hk _ => ((setRow_other _ w.heap.size k R2 (by omega)).trans (setRow_other _ w.heap.size k R1 (by omega))).trans (alloc_old' w.drew _ hk)⟩⟩
theorem at_rowG {F : Nat → Prop} {w : World} {xs : List Value} : ∀ {l : List Mk}, Chunks RMk 2 F w xs l → ∀ u ∈ xs, u.oneCell' = true
  | [], h, u, hu => by
    have : xs = [] := List.length_eq_zero_iff.1 (by simpa using h.1)
    subst this; simp at hu
  | x :: l, h, u, hu => by
    obtain ⟨h1, h2⟩ := chunks_tail h
    rw [← List.take_append_drop 2 xs] at hu
    rcases List.mem_append.1 hu with hu | hu
    · exact one_mk _ _ _ _ h1 u hu
    · exact at_rowG h2 u hu
set_option maxRecDepth 100000 in
set_option maxHeartbeats 4000000 in
theorem insert_anyG {base : Nat} {F G : Nat → Prop} {w : World} {v : Value} {l : List Mk} {i vb : Nat} {te : TypeId} {x0 x1 : Value} {x : Mk} (hown : OSl RMk 2 47 base F w v l) (hi : i ≤ l.length) (hl : l.length ≤ 1000)
    (hv : w.heap[vb]? = some (.cells #[x0, x1] te (0, 0))) (hx : RMk G w [x0, x1] x) (hG : ∀ k, G k → k < w.heap.size → F k ∧ some k ≠ v.ownBlock) (hvb : some vb ≠ v.ownBlock) (hFv : F vb) (hbase : base ≤ w.heap.size) :
    Calls Tryz.prog 144 #[v, .int .i64 i, .slice (some ⟨vb, 0, none⟩) 1 1] w fun e w' => ∃ v', e = .returned v' ∧ OSl RMk 2 47 base F w' v' (l.take i ++ x :: l.drop i) ∧ w.grownBy w' v.ownBlock ∧ (v'.ownBlock = v.ownBlock ∨ v'.ownBlock = some w.heap.size) := by
  have hvw : vb < w.heap.size := (Array.getElem?_eq_some_iff.1 hv).1
  have h1v : ∀ u ∈ [x0, x1], u.oneCell' = true := one_mk _ _ _ _ hx
  have hone : RSl RMk 2 (fun k => G k ∨ k = vb) w (.slice (some ⟨vb, 0, none⟩) 1 1) [x] :=
    rsl_of_range (o := 0) (xs := [x0, x1]) (fun j u hj => by rw [Nat.zero_add]; exact cell_row hv (by simpa using hj)) (chunks_one rfl (gMk.more (fun k hk _ => Or.inl hk) hx)) (Or.inr rfl) hvw (Nat.le_refl _) (by unfold maxLen; omega)
  by_cases hin : i = l.length
  · subst hin
    have e : l.take l.length ++ x :: l.drop l.length = l ++ [x] := by simp
    rw [e]
    obtain ⟨i0, hi0, hz0, hz1, hz2⟩ := info_parts cm_info
    have HJ := Lib.hid hi0
    have HZ0 := Lib.hid hz0
    have HZ1 := Lib.hid hz1
    have HZ2 := Lib.hid hz2
    have HO := Lib.hid hown
    have HONE := Lib.hid hone
    have HGG := Lib.hid (show ∀ k, (G k ∨ k = vb) → k < w.heap.size → F k ∧ some k ≠ v.ownBlock from fun k hk hlt => hk.elim (fun h => hG k h hlt) (fun h => h ▸ ⟨hFv, hvb⟩))
    have HL := Lib.hid hl
    have HB := Lib.hid hbase
    obtain ⟨xs, hrow, hch⟩ := hown
    rcases hrow.2 with ⟨rfl, h0⟩ | ⟨g, c, cur, rfl, hb, hh, hnc, hcm, hcs, ht⟩
    · obtain rfl : l = [] := List.length_eq_zero_iff.1 h0
      clear hrow hch h0 hi0 hz0 hz1 hz2 hone hvb hG hv hx hl hi hbase hvw
      go_enter Tryz.func144, Tryz.ntmps144
      go_wp2_with (at_builtin; go_must (refine wpList_appAll gMk rfl (.tmp 23) (.tmp 24) 23 rfl base 47 i0 _ 2 32 Tryz.underlying23 HJ.out HZ0.out HZ1.out HZ2.out rfl (by omega) (F := F) (G := fun k => G k ∨ k = vb) (.slice none 0 0) [] rfl HO.out (.slice (some ⟨vb, 0, none⟩) 1 1) [x] rfl HONE.out one_mk HGG.out (c_len HL.out) (cm_byt HL.out) HB.out ?_; intro v9 w9 hown9 hg9 hat9; obtain ⟨a9, n9, c9, rfl⟩ := osl_slice hown9))
      go_ret
      exact ⟨_, rfl, hown9, hg9, hat9⟩
    · have hcmI : l.length ≤ 9223372036854775807 := by omega
      have hii : (0 : Int) ≤ (l.length : Int) := Int.natCast_nonneg _
      have hncI : (l.length : Int) ≤ (c : Int) := by exact_mod_cast hnc
      clear hrow hch hi0 hz0 hz1 hz2 hone hvb hG hv hx hi hbase hvw hh hcs ht hcm hb
      go_enter Tryz.func144, Tryz.ntmps144
      go_wp2_with (at_builtin; go_must (refine wpList_appAll gMk rfl (.tmp 23) (.tmp 24) 23 rfl base 47 i0 _ 2 32 Tryz.underlying23 HJ.out HZ0.out HZ1.out HZ2.out rfl (by omega) (F := F) (G := fun k => G k ∨ k = vb) (.slice (some ⟨g, 0, none⟩) l.length c) l rfl HO.out (.slice (some ⟨vb, 0, none⟩) 1 1) [x] rfl HONE.out one_mk HGG.out (c_len HL.out) (cm_byt HL.out) HB.out ?_; intro v9 w9 hown9 hg9 hat9; obtain ⟨a9, n9, c9, rfl⟩ := osl_slice hown9))
      all_goals go_ret
      all_goals exact ⟨_, rfl, hown9, hg9, hat9⟩
  · obtain ⟨xs, hrow, hch⟩ := hown
    have h1 := at_rowG hch
    rcases hrow.2 with ⟨rfl, h0⟩ | ⟨g, c, cur, rfl, hb, hh, hnc, hcm, hcs, ht⟩
    · omega
    · have hne : vb ≠ g := fun e => hvb (congrArg some e)
      have hxl : l.take i ++ x :: l.drop i = l.take i ++ [x] ++ l.drop i := by simp
      have hcs' : Chunks RMk 2 (fun k => F k ∧ some k ≠ some g) w (xs.take (i * 2) ++ [x0, x1] ++ xs.drop (i * 2)) (l.take i ++ x :: l.drop i) := by
        rw [hxl]
        exact chunks_app (chunks_app (chunks_take hch hi) (chunks_one rfl (gMk.more hG hx))) (chunks_drop hch hi)
      have hlen : (l.take i ++ x :: l.drop i).length = l.length + 1 := by simp; omega
      subst ht
      by_cases hroom : l.length + 1 ≤ c
      · refine (insert_shiftG hh (by omega) hroom (by unfold maxLen at hcm; omega) hcs hv hne h1 h1v hl).mono ?_
        rintro e w' ⟨rfl, row, hrs, hrt, hrh, hgr⟩
        refine ⟨_, rfl, ⟨_, ⟨hcs'.1, .inr ⟨g, c, row, by rw [hlen], hb, hrh, by rw [hlen]; exact hroom, hcm, hrs, by rw [hlen]; exact hrt⟩⟩, ?_⟩, hgr, .inl rfl⟩
        exact chunks_keep gMk ⟨hgr.size, fun k hk hlt => hgr.block k hlt hk.2⟩ hcs'
      · refine (insert_growG hh (by omega) hnc (by omega) (by unfold maxLen at hcm; omega) hcs hv h1 h1v hl).mono ?_
        rintro e w' ⟨G', rfl, hG1, hG2, row, hrs, hrt, hrh, hgr⟩
        refine ⟨_, rfl, ⟨_, ⟨hcs'.1, .inr ⟨w.heap.size, G', row, by rw [hlen], hbase, hrh, by rw [hlen]; exact hG1, hG2, hrs, by rw [hlen]; exact hrt⟩⟩, ?_⟩, ⟨hgr.os, hgr.tape, hgr.output, hgr.size, fun k hlt _ => hgr.block k hlt (by simp)⟩, .inr rfl⟩
        exact chunks_keep gMk ⟨hgr.size, fun k hk hlt => hgr.block k hlt (by simp)⟩ (chunks_more gMk (fun k hk hlt => ⟨hk.1, fun e => by have e' : k = w.heap.size := by simpa [Value.ownBlock] using e
                                                                                                                                         omega⟩) hcs')
end Go.Proofs.YtfgfdohppgoajaaGreat
/- Who does deeds: the state that is worked on, as it lies; what is gone of it. -/
namespace Go.Proofs.YtfgfdohppgoajaaGreat
open Go Go.RowKit Go.BigFrame Cp

/-- the blocks of Z are as they were -/
structure Kept (Z : Nat → Prop) (w w' : World) : Prop where
  os : w'.os = w.os
  tape : w'.tape = w.tape
  output : w'.output = w.output
  size : w.heap.size ≤ w'.heap.size
  block : ∀ k, Z k → k < w.heap.size → w'.heap[k]? = w.heap[k]?
section
variable {Z : Nat → Prop} {a w w' : World}
theorem kept_refl : Kept Z w w := ⟨rfl, rfl, rfl, Nat.le_refl _, fun _ _ _ => rfl⟩
theorem kept_trans {b c : World} (h : Kept Z a b) (k : Kept Z b c) : Kept Z a c :=
  ⟨k.os.trans h.os, k.tape.trans h.tape, k.output.trans h.output, Nat.le_trans h.size k.size, fun i hi hl => (k.block i hi (Nat.lt_of_lt_of_le hl h.size)).trans (h.block i hi hl)⟩
theorem kept_ext (h : Ext w w') : Kept Z w w' := ⟨Below.os h, Below.tape h, Below.output h, Below.size h, fun k _ hk => Below.block h k hk⟩
theorem kept_grown {row : Option Nat} (h : w.grownBy w' row) (hr : ∀ k, Z k → some k ≠ row) : Kept Z w w' := ⟨h.os, h.tape, h.output, h.size, fun k hk hl => h.block k hl (hr k hk)⟩
theorem kept_set (h : Kept Z a w) {p : Addr} (hp : ¬ Z p.block) (u : Value) : Kept Z a (w.setCell p u) :=
  ⟨by simpa [World.setCell] using h.os, by simpa [World.setCell] using h.tape, by simpa [World.setCell] using h.output, by simpa [World.setCell] using h.size,
   fun k hk hl => (Below.heap_setCell w p u k (fun e => by subst e; exact hp hk)).trans (h.block k hk hl)⟩
theorem Kept.toExt (h : Kept Z w w') (k : Ext a w) (hz : ∀ j, j < a.heap.size → Z j) : Ext a w' := by
  have k' : Below a.heap.size a w := k
  exact (⟨h.os.trans k'.os, h.tape.trans k'.tape, h.output.trans k'.output, Nat.le_trans k'.size h.size, fun j hj => (h.block j (hz j hj) (Nat.lt_of_lt_of_le hj k'.size)).trans (k'.block j hj)⟩ : Below a.heap.size a w')
theorem Kept.cell (h : Kept Z w w') {b : Nat} (hz : Z b) (hb : b < w.heap.size) (o : Nat) : w'.cell? ⟨b, o, none⟩ = w.cell? ⟨b, o, none⟩ := World.cell?_of_block (a := ⟨b, o, none⟩) (h.block b hz hb)
theorem Kept.frz (h : Kept Z w w') {b : Nat} (hz : Z b) (hb : b < w.heap.size) (o : Nat) : w'.frozen? ⟨b, o, none⟩ = w.frozen? ⟨b, o, none⟩ := World.frozen?_of_block (a := ⟨b, o, none⟩) (h.block b hz hb)
theorem Kept.keeps (h : Kept Z w w') : Keeps Z w w' := ⟨h.size, fun k hk hl => h.block k hk hl⟩
theorem Kept.less {Y : Nat → Prop} (h : Kept Z w w') (hy : ∀ k, Y k → Z k) : Kept Y w w' := ⟨h.os, h.tape, h.output, h.size, fun k hk hl => h.block k (hy k hk) hl⟩
end
/-- a state in two cells of a block: two rows from B on, and neither is the other's, nor holds the other's elements; none of Z is one of them -/
def DoerIs (Z : Nat → Prop) (B b : Nat) (s : St) (W : World) (v u : Value) : Prop :=
  W.cell? ⟨b, 0, none⟩ = some v ∧ W.cell? ⟨b, 1, none⟩ = some u ∧ (∀ o, W.frozen? ⟨b, o, none⟩ = false) ∧
  OSl RAt 3 83 B (fun j => B ≤ j ∧ j ≠ b ∧ some j ≠ u.ownBlock) W v s.1 ∧ OSl RMk 2 47 B (fun j => B ≤ j ∧ j ≠ b ∧ some j ≠ v.ownBlock) W u s.2 ∧
  (∀ j, v.ownBlock = some j → u.ownBlock ≠ some j ∧ j ≠ b ∧ ¬ Z j) ∧ (∀ j, u.ownBlock = some j → j ≠ b ∧ ¬ Z j) ∧ B ≤ b ∧ ¬ Z b
def DoerAt (Z : Nat → Prop) (B b : Nat) (s : St) (W : World) : Prop := ∃ v u, DoerIs Z B b s W v u
section
variable {Z : Nat → Prop} {B b : Nat} {s : St} {w w' : World} {v u : Value}
theorem DoerIs.c0 (h : DoerIs Z B b s w v u) : w.cell? ⟨b, 0, none⟩ = some v := h.1
theorem DoerIs.c1 (h : DoerIs Z B b s w v u) : w.cell? ⟨b, 1, none⟩ = some u := h.2.1
theorem DoerIs.fz (h : DoerIs Z B b s w v u) (o : Nat) : w.frozen? ⟨b, o, none⟩ = false := h.2.2.1 o
theorem DoerIs.oa (h : DoerIs Z B b s w v u) : OSl RAt 3 83 B (fun j => B ≤ j ∧ j ≠ b ∧ some j ≠ u.ownBlock) w v s.1 := h.2.2.2.1
theorem DoerIs.og (h : DoerIs Z B b s w v u) : OSl RMk 2 47 B (fun j => B ≤ j ∧ j ≠ b ∧ some j ≠ v.ownBlock) w u s.2 := h.2.2.2.2.1
theorem DoerIs.ra (h : DoerIs Z B b s w v u) : ∀ j, v.ownBlock = some j → u.ownBlock ≠ some j ∧ j ≠ b ∧ ¬ Z j := h.2.2.2.2.2.1
theorem DoerIs.rg (h : DoerIs Z B b s w v u) : ∀ j, u.ownBlock = some j → j ≠ b ∧ ¬ Z j := h.2.2.2.2.2.2.1
theorem DoerIs.le (h : DoerIs Z B b s w v u) : B ≤ b := h.2.2.2.2.2.2.2.1
theorem DoerIs.nz (h : DoerIs Z B b s w v u) : ¬ Z b := h.2.2.2.2.2.2.2.2
theorem doer_lt (h : DoerIs Z B b s w v u) : b < w.heap.size := World.block_lt_of_cell? _ _ h.1
theorem doer_ext (h : DoerIs Z B b s w v u) (hx : Ext w w') : DoerIs Z B b s w' v u := by
  have hb := doer_lt h
  obtain ⟨h1, h2, h3, h4, h5, h6, h7, h8, h9⟩ := h
  exact ⟨(hx.cells _ _ hb).trans h1, (hx.cells _ _ hb).trans h2, fun o => (hx.frz _ _ hb).trans (h3 o), osl_ext gAt h4 hx, osl_ext gMk h5 hx, h6, h7, h8, h9⟩
theorem doer_z {Y : Nat → Prop} (h : DoerIs Z B b s w v u) (hy : ∀ j, Y j → Z j ∨ w.heap.size ≤ j) : DoerIs Y B b s w v u := by
  have hb := doer_lt h
  obtain ⟨h1, h2, h3, h4, h5, h6, h7, h8, h9⟩ := h
  refine ⟨h1, h2, h3, h4, h5, fun j hj => ⟨(h6 j hj).1, (h6 j hj).2.1, fun hy' => ?_⟩, fun j hj => ⟨(h7 j hj).1, fun hy' => ?_⟩, h8, fun hy' => ?_⟩
  · rcases hy j hy' with h | h
    · exact (h6 j hj).2.2 h
    · have := (osl_lt h4 j hj).2; omega
  · rcases hy j hy' with h | h
    · exact (h7 j hj).2 h
    · have := (osl_lt h5 j hj).2; omega
  · rcases hy b hy' with h | h
    · exact h9 h
    · omega
theorem doer_atoms (h : DoerIs Z B b s w v u) : RSl RAt 3 (fun k => B ≤ k) w v s.1 := osl_rsl gAt h.2.2.2.1 (fun _ hk _ => hk.1) (fun _ hk => hk)
theorem doer_gone (h : DoerIs Z B b s w v u) : RSl RMk 2 (fun k => B ≤ k) w u s.2 := osl_rsl gMk h.2.2.2.2.1 (fun _ hk _ => hk.1) (fun _ hk => hk)
end
set_option maxRecDepth 100000 in
set_option maxHeartbeats 4000000 in
theorem gone_any {F G : Nat → Prop} {w : World} {b : Nat} {u : Value} {ds : List Value} {g : List Mk} {m : Mk} (hc : w.cell? ⟨b, 1, none⟩ = some u) (hu : RSl RMk 2 F w u g) (hm : RMk G w ds m) (hs : SortedG g) (hn : g.length ≤ 1000000) :
    Calls Tryz.prog 142 #[.pointer (some ⟨b, 0, none⟩), .agg ds.toArray] w (IsFound (placeG g m) (hasG g m) w) := by
  have hbz : b < w.heap.size := World.block_lt_of_cell? _ _ hc
  have HS := Lib.hid (fun (W : World) (hx : Ext w W) => (searchG_any (hu.ext gMk hx) (gMk.ext hm hx) hs hn : Calls Tryz.prog 147 #[u, .agg ds.toArray, .func (.func 59) #[] #[]] W (fun e w' => e = .returned (.tuple #[.int .i64 (placeG g m : Nat), .bool (hasG g m)]) ∧ Ext W w')))
  obtain ⟨a0, n0, c0, rfl⟩ := hu.slice
  obtain ⟨x, rfl, hx, _⟩ := hm
  obtain ⟨p, d⟩ := m
  simp only at hx HS ⊢
  obtain ⟨a2, n2, c2, rfl⟩ := hx.slice
  generalize placeG g (p, d) = pl at *
  generalize hasG g (p, d) = hb at *
  clear hu hx hs hn
  go_enter Tryz.func142, Tryz.ntmps142
  go_wp2_with fail
  refine wp_name (fun W2 eW2 => ?_)
  have e0 : W2.cell? ⟨b, 1, none⟩ = some (.slice a0 n0 c0) := by rw [eW2]; go_simp
  have e1 : W2.cell? ⟨w.heap.size, 0, none⟩ = some (.slice a2 n2 c2) := by rw [eW2]; go_simp
  have e2 : W2.cell? ⟨w.heap.size, 1, none⟩ = some (.int .i64 d) := by rw [eW2]; go_simp
  have zW2_0 : b < W2.heap.size := by rw [eW2]; first | assumption | omega | (simp <;> omega)
  have zW2_1 : w.heap.size < W2.heap.size := by rw [eW2]; first | assumption | omega | (simp <;> omega)
  have hw2 : Ext w W2 := by rw [eW2]; exact extA
  clear eW2
  refine wp_region_later fol (by kernel_rfl) (fun hlater => ?_)
  repeat (go_big_quiet_step ((first
      | (go_at_call 147; (with_reducible exact later_of (HS.out _ (ext_trans hw2 (Later.ext _))))))))
  refine wpQuiet_nil ?_
  rintro w3 ⟨⟨w3x, hx3⟩, rfl⟩
  clear hlater
  go_wp2_with fail
  refine bodyPost_ret (v := .tuple #[.int .i64 (pl : Nat), .bool hb]) (by simp [results, Tryz.results142, go_sem]) rfl ⟨rfl, ext_trans hw2 hx3⟩
end Go.Proofs.YtfgfdohppgoajaaGreat
/- Who does deeds: a mark is taken. -/
namespace Go.Proofs.YtfgfdohppgoajaaGreat
open Go Go.RowKit Go.BigFrame Cp

theorem takeA_at {l : List At} {m : Mk} (hs : SortedA l) (h : hasM l m = true) : takeA l [m] = l.take (placeA l m) ++ l.drop (placeA l m + 1) ∧ placeA l m < l.length := by
  induction l with
  | nil => simp [hasM] at h
  | cons x r ih =>
    rw [hasM_cons] at h
    rw [placeA_cons]
    by_cases h0 : ordM x.1 m = 0
    · have hr : ∀ b ∈ r, ordM b.1 m = 1 := fun b hb => ordM_up (sortedA_head hs b hb) (by omega)
      rw [(place_none hr).1, if_neg (by omega)]
      refine ⟨?_, by simp⟩
      have e1 : takeA (x :: r) [m] = takeA r [m] := by
        unfold takeA
        rw [List.filter_cons, if_neg]
        have : ordM m x.1 = 0 := by rw [ordM_zero] at h0 ⊢; exact h0.symm
        simp [hasG, this]
      have e2 : takeA r [m] = r := by
        unfold takeA
        rw [List.filter_eq_self]
        intro b hb
        have h1 := hr b hb
        have h2 := ordM_anti b.1 m
        have : ¬ ordM m b.1 = 0 := by omega
        simp [hasG, this]
      rw [e1, e2]; simp
    · rw [decide_eq_false h0, Bool.false_or] at h
      obtain ⟨i1, i2⟩ := ih (sortedA_tail hs) h
      have hlt : ordM x.1 m < 0 := by
        by_cases h1 : ordM x.1 m = 1
        · have := (place_none (r := r) (m := m) (fun b hb => ordM_up (sortedA_head hs b hb) (by omega))).2
          rw [this] at h; cases h
        · rcases ordM_range x.1 m with h2 | h2 | h2 <;> omega
      rw [if_pos hlt]
      have e1 : takeA (x :: r) [m] = x :: takeA r [m] := by
        unfold takeA
        rw [List.filter_cons, if_pos]
        have : ¬ ordM m x.1 = 0 := by rw [ordM_zero] at h0 ⊢; exact fun e => h0 e.symm
        simp [hasG, this]
      rw [e1, i1]
      exact ⟨by simp, by simp; omega⟩
theorem takeA_noM {l : List At} {m : Mk} (h : hasM l m = false) : takeA l [m] = l := by
  unfold takeA
  rw [List.filter_eq_self]
  intro b hb
  have h1 := List.any_eq_false.1 h b hb
  have : ¬ ordM m b.1 = 0 := by
    have h2 : ¬ ordM b.1 m = 0 := by simpa using h1
    rw [ordM_zero] at h2 ⊢; exact fun e => h2 e.symm
  simp [hasG, this]
theorem alloc_newd (w : World) (o : Obj) : (w.alloc o).drew.heap[w.heap.size]? = some o := heap_alloc_new w o
theorem alloc_newe (w : World) (o : Obj) : (w.drew.alloc o).heap[w.heap.size]? = some o := heap_alloc_new w.drew o
section
variable {Z : Nat → Prop} {B b : Nat} {s : St} {w w4 : World} {v u v4 u4 : Value}
theorem doer_set0 {l : List At} (h : DoerIs Z B b s w v u) (hv4 : OSl RAt 3 83 B (fun j => B ≤ j ∧ j ≠ b ∧ some j ≠ u.ownBlock) w4 v4 l) (hg : w.grownBy w4 v.ownBlock) (hat : v4.ownBlock = v.ownBlock) :
    DoerIs Z B b (l, s.2) (w4.setCell ⟨b, 0, none⟩ v4) v4 u ∧ Kept Z w (w4.setCell ⟨b, 0, none⟩ v4) := by
  have hb := doer_lt h
  obtain ⟨h1, h2, h3, h4, h5, h6, h7, h8, h9⟩ := h
  have hbr : some b ≠ v.ownBlock := fun e => (h6 b e.symm).2.1 rfl
  have hbk := hg.block b hb hbr
  have f0 := (World.frozen?_of_block (a := ⟨b, 0, none⟩) hbk).trans (h3 0)
  have c0 := (World.cell?_of_block (a := ⟨b, 0, none⟩) hbk).trans h1
  have c1 := (World.cell?_of_block (a := ⟨b, 1, none⟩) hbk).trans h2
  have hkb : ∀ Y : Nat → Prop, ¬ Y b → Keeps Y w4 (w4.setCell ⟨b, 0, none⟩ v4) := fun Y hy => keeps_set keeps_refl (fun _ h => hy h) _
  refine ⟨⟨by go_simp, by go_simp, fun o => ?_, ?_, ?_, ?_, h7, h8, h9⟩, ?_⟩
  · have := (World.frozen?_of_block (a := ⟨b, o, none⟩) hbk).trans (h3 o)
    go_simp
  · refine osl_keep gAt hv4 (hkb _ (fun h => ?_))
    rcases h with h | h
    · exact h.2.1 rfl
    · rw [hat] at h; exact hbr h
  · have h5' : OSl RMk 2 47 B (fun j => B ≤ j ∧ j ≠ b ∧ some j ≠ v4.ownBlock) w u s.2 := by rw [hat]; exact h5
    refine osl_keep gMk h5' (Keeps.trans ⟨hg.size, fun k hk hl => hg.block k hl (fun e => ?_)⟩ (hkb _ (fun h => ?_)))
    · rcases hk with hk | hk
      · exact hk.2.2 (hat ▸ e)
      · exact (h6 k e.symm).1 hk.symm
    · rcases h with h | h
      · exact h.2.1 rfl
      · exact (h7 b h.symm).1 rfl
  · intro j hj; rw [hat] at hj; exact h6 j hj
  · exact kept_set (kept_grown hg (fun k hk e => (h6 k e.symm).2.2 hk)) h9 _
theorem doer_set1 {l : List Mk} (h : DoerIs Z B b s w v u) (hu4 : OSl RMk 2 47 B (fun j => B ≤ j ∧ j ≠ b ∧ some j ≠ v.ownBlock) w4 u4 l) (hg : w.grownBy w4 u.ownBlock) (hat : u4.ownBlock = u.ownBlock ∨ u4.ownBlock = some w.heap.size) (hZ : ∀ j, Z j → j < w.heap.size) :
    DoerIs Z B b (s.1, l) (w4.setCell ⟨b, 1, none⟩ u4) v u4 ∧ Kept Z w (w4.setCell ⟨b, 1, none⟩ u4) := by
  have hb := doer_lt h
  obtain ⟨h1, h2, h3, h4, h5, h6, h7, h8, h9⟩ := h
  have hbr : some b ≠ u.ownBlock := fun e => (h7 b e.symm).1 rfl
  have hbk := hg.block b hb hbr
  have f0 := (World.frozen?_of_block (a := ⟨b, 1, none⟩) hbk).trans (h3 1)
  have c0 := (World.cell?_of_block (a := ⟨b, 0, none⟩) hbk).trans h1
  have c1 := (World.cell?_of_block (a := ⟨b, 1, none⟩) hbk).trans h2
  have hkb : ∀ Y : Nat → Prop, ¬ Y b → Keeps Y w4 (w4.setCell ⟨b, 1, none⟩ u4) := fun Y hy => keeps_set keeps_refl (fun _ h => hy h) _
  have hu4b : ∀ j, u4.ownBlock = some j → u.ownBlock = some j ∨ j = w.heap.size := fun j hj => by
    rcases hat with e | e
    · exact .inl (e.symm.trans hj)
    · right; rw [e] at hj; exact (Option.some.inj hj).symm
  refine ⟨⟨by go_simp, by go_simp, fun o => ?_, ?_, ?_, fun j hj => ⟨fun hu => ?_, (h6 j hj).2⟩, fun j hj => ?_, h8, h9⟩, ?_⟩
  · have := (World.frozen?_of_block (a := ⟨b, o, none⟩) hbk).trans (h3 o)
    go_simp
  · have h4' : OSl RAt 3 83 B (fun j => (B ≤ j ∧ j ≠ b ∧ some j ≠ u.ownBlock) ∧ j < w.heap.size) w v s.1 := osl_more gAt h4 (fun k hk hl _ => ⟨hk, hl⟩)
    have h4'' : OSl RAt 3 83 B (fun j => B ≤ j ∧ j ≠ b ∧ some j ≠ u4.ownBlock) w v s.1 := osl_more gAt h4' (fun k hk hl _ => ⟨hk.1.1, hk.1.2.1, fun e => by
      rcases hu4b k e.symm with e2 | e2
      · exact hk.1.2.2 e2.symm
      · omega⟩)
    have h4x : OSl RAt 3 83 B (fun j => B ≤ j ∧ j ≠ b ∧ some j ≠ u.ownBlock) (w4.setCell ⟨b, 1, none⟩ u4) v s.1 := by
      refine osl_keep gAt h4 (Keeps.trans ⟨hg.size, fun k hk hl => hg.block k hl (fun e => ?_)⟩ (hkb _ (fun h => ?_)))
      · rcases hk with hk | hk
        · exact hk.2.2 e
        · exact (h6 k hk.symm).1 e.symm
      · rcases h with h | h
        · exact h.2.1 rfl
        · exact (h6 b h.symm).2.1 rfl
    rcases hat with e | e
    · rw [e]; exact h4x
    · have h4y : OSl RAt 3 83 B (fun j => (B ≤ j ∧ j ≠ b ∧ some j ≠ u.ownBlock) ∧ j < w.heap.size) (w4.setCell ⟨b, 1, none⟩ u4) v s.1 := by
        refine osl_keep gAt h4' (Keeps.trans ⟨hg.size, fun k hk hl => hg.block k hl (fun e => ?_)⟩ (hkb _ (fun h => ?_)))
        · rcases hk with hk | hk
          · exact hk.1.2.2 e
          · exact (h6 k hk.symm).1 e.symm
        · rcases h with h | h
          · exact h.1.2.1 rfl
          · exact (h6 b h.symm).2.1 rfl
      exact osl_more gAt h4y (fun k hk _ _ => ⟨hk.1.1, hk.1.2.1, fun e2 => by rw [e] at e2; have := Option.some.inj e2; omega⟩)
  · refine osl_keep gMk hu4 (hkb _ (fun h => ?_))
    rcases h with h | h
    · exact h.2.1 rfl
    · rcases hu4b b h.symm with e | e
      · exact hbr e.symm
      · omega
  · rcases hu4b j hu with e | e
    · exact (h6 j hj).1 e
    · have := (osl_lt h4 j hj).2; omega
  · rcases hu4b j hj with e | e
    · exact h7 j e
    · exact ⟨by omega, fun hz => by have := hZ j hz; omega⟩
  · exact kept_set (kept_grown hg (fun k hk e => (h7 k e.symm).2 hk)) h9 _
end
set_option maxRecDepth 100000 in
set_option maxHeartbeats 4000000 in
theorem take_any {Z : Nat → Prop} {w0 w : World} {B b : Nat} {s : St} {v u : Value} {ds : List Value} {m : Mk} (h : DoerIs Z B b s w0 v u) (hx0 : Ext w0 w) (hm : RMk (fun j => w0.heap.size ≤ j) w ds m) (hZ : ∀ j, Z j → j < w.heap.size)
    (hs : SortedA s.1) (hg : SortedG s.2) (hl : s.1.length ≤ 1000) (hn : s.2.length ≤ 1000) :
    Calls Tryz.prog 129 #[.pointer (some ⟨b, 0, none⟩), .agg ds.toArray] w (fun e w' => e = .returned (.tuple #[]) ∧ DoerAt Z B b (takeA s.1 [m], putG s.2 m) w' ∧ Kept Z w w') := by
  have hb0 := doer_lt h
  have hsz0 := hx0.size
  obtain ⟨Y, hY⟩ : ∃ Y : Nat → Prop, Y = fun j => Z j ∨ (w0.heap.size ≤ j ∧ j ≤ w.heap.size) := ⟨_, rfl⟩
  have HYZ := Lib.hid (show ∀ j, Z j → Y j by rw [hY]; exact fun j hj => .inl hj)
  have HYM := Lib.hid (show ∀ j, w0.heap.size ≤ j → j ≤ w.heap.size → Y j by rw [hY]; exact fun j h1 h2 => .inr ⟨h1, h2⟩)
  have HYL := Lib.hid (show ∀ j, Y j → j ≤ w.heap.size by rw [hY]; exact fun j hj => hj.elim (fun h => Nat.le_of_lt (hZ j h)) (fun h => h.2))
  have hd0 : DoerIs Y B b s w0 v u := doer_z h (by rw [hY]; exact fun j hj => hj.elim .inl (fun h => .inr h.1))
  have HD := Lib.hid (fun (W : World) (hx : Ext w W) => doer_ext hd0 (ext_trans hx0 hx))
  clear hd0 hY
  have HF := Lib.hid (fun (W : World) (hx : Ext w W) => (findA_any ((doer_atoms h).ext gAt (ext_trans hx0 hx)) (gMk.ext hm hx) hs (by omega) : Calls Tryz.prog 86 #[v, .agg ds.toArray] W (fun e w' => e = .returned (.tuple #[.int .i64 (placeA s.1 m : Nat), .bool (hasM s.1 m)]) ∧ Ext W w')))
  have hm' : RMk (fun j => w0.heap.size ≤ j ∧ j ≤ w.heap.size) w ds m := gMk.more (fun j hj hlt => ⟨hj, Nat.le_of_lt hlt⟩) hm
  have HMK := Lib.hid hm'
  have hB : B ≤ b := h.le
  clear hm'
  obtain ⟨av, nv, cv, rfl⟩ := osl_slice h.oa
  obtain ⟨au, nu, cu, rfl⟩ := osl_slice h.og
  have HRV := Lib.hid (osl_lt h.oa)
  have HRU := Lib.hid (osl_lt h.og)
  have HS := Lib.hid hs
  have HG := Lib.hid hg
  have HX0 := Lib.hid hx0
  obtain ⟨x, rfl, hx, hi⟩ := hm
  obtain ⟨p, d⟩ := m
  obtain ⟨la, lg⟩ := s
  simp only at hx hi HF hl hn HS HG ⊢
  obtain ⟨a2, n2, c2, rfl⟩ := hx.slice
  have HI := Lib.hid hi
  clear hx hi h hs hg hx0 hZ
  go_enter Tryz.func129, Tryz.ntmps129
  go_wp2_with fail
  refine wp_name (fun W2 eW2 => ?_)
  have z0 : W2.cell? ⟨w.heap.size, 0, none⟩ = some (.slice a2 n2 c2) := by rw [eW2]; go_simp
  have z1 : W2.cell? ⟨w.heap.size, 1, none⟩ = some (.int .i64 d) := by rw [eW2]; go_simp
  have hw2 : Ext w W2 := by rw [eW2]; exact extA
  have hs2 : w.heap.size + 1 ≤ W2.heap.size := by rw [eW2]; simp
  clear eW2
  have HD2 := Lib.hid (HD.out W2 hw2)
  have y0 := HD2.out.c0
  have hbw : b < W2.heap.size := by omega
  have hbx : w.heap.size < W2.heap.size := by omega
  refine wp_region_later fol (by kernel_rfl) (fun hlater => ?_)
  repeat (go_big_quiet_step ((first
      | (go_at_call 86; (with_reducible exact later_of (HF.out _ (ext_trans hw2 (Later.ext _))))))))
  refine wpQuiet_nil ?_
  rintro W3 ⟨⟨w3x, hx3'⟩, rfl⟩
  clear hlater
  have hs3 := hx3'.size
  have x0 := (hx3'.cells _ _ hbx).trans z0
  have x1 := (hx3'.cells _ _ hbx).trans z1
  have HD3 := Lib.hid (doer_ext HD2.out hx3')
  have HX3 := Lib.hid (ext_trans hw2 hx3')
  have y3 := HD3.out.c0
  have y4 := HD3.out.c1
  have yf0 := HD3.out.fz 0
  have yf1 := HD3.out.fz 1
  clear z0 z1 y0 hw2 hx3' HD2 HF
  cases hm : hasM la (p, d) with
  | true =>
    obtain ⟨he1, he2⟩ := takeA_at HS.out hm
    have HTE := Lib.hid he1
    have HPI := Lib.hid he2
    generalize placeA la (p, d) = pa at *
    have hw1 : wrap64 ((pa : Int) + 1) = (pa : Int) + 1 := IntWalk.wrap64_in _ (by have := HPI.out; omega)
    clear hm he1 he2
    cases hh : hasG lg (p, d) with
    | true =>
      have HE := Lib.hid (putG_has HG.out hh)
      have HPL := Lib.hid (placeG_le lg (p, d))
      have hgn := fun (V : World) (vu : Value) (hc : V.cell? ⟨b, 1, none⟩ = some vu) {F1 : Nat → Prop} (hu : RSl RMk 2 F1 V vu lg) {G1 : Nat → Prop} {cs : List Value} (hm : RMk G1 V cs (p, d)) => gone_any hc hu hm HG.out (by omega)
      rw [hh] at hgn
      generalize placeG lg (p, d) = pg at *
      have HGN := Lib.hid hgn
      clear hgn hh
      go_wp2_with (first | (go_at_call 143; go_must ((with_reducible refine (deleteAt_any (base := B) (F := fun j => B ≤ j ∧ j ≠ b ∧ some j ≠ (Value.slice au nu cu).ownBlock) HD3.out.oa HPI.out (by simpa using hl)).mono ?_); rintro e w4 ⟨v4, rfl, hv4, hg4, hat4⟩; obtain ⟨a4, n4, c4, rfl⟩ := osl_slice hv4; have HV4 := Lib.hid (doer_set0 HD3.out hv4 hg4 hat4); have hbk4 := hg4.block b (by omega) (fun e => (HD3.out.ra b e.symm).2.1 rfl); have r0 := (World.cell?_of_block (a := ⟨b, 0, none⟩) hbk4).trans y3; have rf0 := (World.frozen?_of_block (a := ⟨b, 0, none⟩) hbk4).trans yf0; have hbx4 := hg4.block w.heap.size (by omega) (fun e => by have := (HRV.out _ e.symm).2; omega); have rb0 := (World.cell?_of_block (a := ⟨w.heap.size, 0, none⟩) hbx4).trans x0; have rb1 := (World.cell?_of_block (a := ⟨w.heap.size, 1, none⟩) hbx4).trans x1; have hs4 := hg4.size; have hnb : ¬ b = w.heap.size := (by omega); have hnb' : ¬ w.heap.size = b := (by omega); have HD5 : Hid (DoerIs Y B b (la.take pa ++ la.drop (pa + 1), lg) (w4.setCell ⟨b, 0, none⟩ (.slice a4 n4 c4)) (.slice a4 n4 c4) (.slice au nu cu)) := Lib.hid HV4.out.1; have HK5 : Hid (Kept Y W3 (w4.setCell ⟨b, 0, none⟩ (.slice a4 n4 c4))) := Lib.hid HV4.out.2; clear hv4 hg4 hat4 hbk4 hbx4 HV4; have HMW : Hid (RMk (fun j => w0.heap.size ≤ j ∧ j ≤ w.heap.size) (w4.setCell ⟨b, 0, none⟩ (.slice a4 n4 c4)) [.slice a2 n2 c2, .int .i64 d] (p, d)) := Lib.hid (gMk.keep ((kept_trans (kept_ext HX3.out) HK5.out).less (fun j hj => HYM.out j hj.1 hj.2)).keeps HMK.out); have HGO := Lib.hid (fun (V : World) (hx : Ext (w4.setCell ⟨b, 0, none⟩ (.slice a4 n4 c4)) V) => (HGN.out V _ (doer_ext HD5.out hx).c1 (doer_gone (doer_ext HD5.out hx)) (gMk.ext HMW.out hx) : Calls Tryz.prog 142 #[.pointer (some ⟨b, 0, none⟩), .agg #[.slice a2 n2 c2, .int .i64 d]] V (fun e w' => e = .returned (.tuple #[.int .i64 (pg : Nat), .bool true]) ∧ Ext V w'))))) | (go_at_call 142; go_must ((with_reducible refine (HGO.out _ extA).mono ?_); rintro e w6 ⟨rfl, hx6⟩; have hs6 := hx6.size; (try simp at hs6); have HX6 := Lib.hid (show Ext (w4.setCell ⟨b, 0, none⟩ (.slice a4 n4 c4)) w6 from ext_trans extA hx6); have HD6 := Lib.hid (doer_ext HD5.out HX6.out); have q0 := HD6.out.c0; have q1 := HD6.out.c1; have qf0 := HD6.out.fz 0; have qf1 := HD6.out.fz 1; have qb0 := (hx6.cells w.heap.size 0 (by first | omega | (simp <;> omega))).trans (show _ = some (.slice a2 n2 c2) by first | assumption | go_simp); have qb1 := (hx6.cells w.heap.size 1 (by first | omega | (simp <;> omega))).trans (show _ = some (.int .i64 d) by first | assumption | go_simp))))
      (go_end0; refine ⟨rfl, ⟨_, _, doer_z (by rw [HE.out, HTE.out]; exact HD6.out) (fun j hj => .inl (HYZ.out j hj))⟩, (kept_trans (kept_trans (kept_ext HX3.out) HK5.out) (kept_ext HX6.out)).less HYZ.out⟩)
    | false =>
      have HE := Lib.hid (putG_new HG.out hh)
      have HPL := Lib.hid (placeG_le lg (p, d))
      have hgn := fun (V : World) (vu : Value) (hc : V.cell? ⟨b, 1, none⟩ = some vu) {F1 : Nat → Prop} (hu : RSl RMk 2 F1 V vu lg) {G1 : Nat → Prop} {cs : List Value} (hm : RMk G1 V cs (p, d)) => gone_any hc hu hm HG.out (by omega)
      rw [hh] at hgn
      generalize placeG lg (p, d) = pg at *
      have HGN := Lib.hid hgn
      clear hgn hh
      go_wp2_with (first | (go_at_call 143; go_must ((with_reducible refine (deleteAt_any (base := B) (F := fun j => B ≤ j ∧ j ≠ b ∧ some j ≠ (Value.slice au nu cu).ownBlock) HD3.out.oa HPI.out (by simpa using hl)).mono ?_); rintro e w4 ⟨v4, rfl, hv4, hg4, hat4⟩; obtain ⟨a4, n4, c4, rfl⟩ := osl_slice hv4; have HV4 := Lib.hid (doer_set0 HD3.out hv4 hg4 hat4); have hbk4 := hg4.block b (by omega) (fun e => (HD3.out.ra b e.symm).2.1 rfl); have r0 := (World.cell?_of_block (a := ⟨b, 0, none⟩) hbk4).trans y3; have rf0 := (World.frozen?_of_block (a := ⟨b, 0, none⟩) hbk4).trans yf0; have hbx4 := hg4.block w.heap.size (by omega) (fun e => by have := (HRV.out _ e.symm).2; omega); have rb0 := (World.cell?_of_block (a := ⟨w.heap.size, 0, none⟩) hbx4).trans x0; have rb1 := (World.cell?_of_block (a := ⟨w.heap.size, 1, none⟩) hbx4).trans x1; have hs4 := hg4.size; have hnb : ¬ b = w.heap.size := (by omega); have hnb' : ¬ w.heap.size = b := (by omega); have HD5 : Hid (DoerIs Y B b (la.take pa ++ la.drop (pa + 1), lg) (w4.setCell ⟨b, 0, none⟩ (.slice a4 n4 c4)) (.slice a4 n4 c4) (.slice au nu cu)) := Lib.hid HV4.out.1; have HK5 : Hid (Kept Y W3 (w4.setCell ⟨b, 0, none⟩ (.slice a4 n4 c4))) := Lib.hid HV4.out.2; clear hv4 hg4 hat4 hbk4 hbx4 HV4; have HMW : Hid (RMk (fun j => w0.heap.size ≤ j ∧ j ≤ w.heap.size) (w4.setCell ⟨b, 0, none⟩ (.slice a4 n4 c4)) [.slice a2 n2 c2, .int .i64 d] (p, d)) := Lib.hid (gMk.keep ((kept_trans (kept_ext HX3.out) HK5.out).less (fun j hj => HYM.out j hj.1 hj.2)).keeps HMK.out); have HGO := Lib.hid (fun (V : World) (hx : Ext (w4.setCell ⟨b, 0, none⟩ (.slice a4 n4 c4)) V) => (HGN.out V _ (doer_ext HD5.out hx).c1 (doer_gone (doer_ext HD5.out hx)) (gMk.ext HMW.out hx) : Calls Tryz.prog 142 #[.pointer (some ⟨b, 0, none⟩), .agg #[.slice a2 n2 c2, .int .i64 d]] V (fun e w' => e = .returned (.tuple #[.int .i64 (pg : Nat), .bool false]) ∧ Ext V w'))))) | (go_at_call 142; go_must ((with_reducible refine (HGO.out _ extA).mono ?_); rintro e w6 ⟨rfl, hx6⟩; have hs6 := hx6.size; (try simp at hs6); have HX6 := Lib.hid (show Ext (w4.setCell ⟨b, 0, none⟩ (.slice a4 n4 c4)) w6 from ext_trans extA hx6); have HD6 := Lib.hid (doer_ext HD5.out HX6.out); have q0 := HD6.out.c0; have q1 := HD6.out.c1; have qf0 := HD6.out.fz 0; have qf1 := HD6.out.fz 1; have qb0 := (hx6.cells w.heap.size 0 (by first | omega | (simp <;> omega))).trans (show _ = some (.slice a2 n2 c2) by first | assumption | go_simp); have qb1 := (hx6.cells w.heap.size 1 (by first | omega | (simp <;> omega))).trans (show _ = some (.int .i64 d) by first | assumption | go_simp))))
      refine wp_name (fun W7 eW7 => ?_)
      have HX7 := Lib.hid (show Ext (w4.setCell ⟨b, 0, none⟩ (.slice a4 n4 c4)) W7 by rw [eW7]; exact HX6.out)
      have HD7 := Lib.hid (doer_ext HD5.out HX7.out)
      have HM7 := Lib.hid (gMk.ext HMW.out HX7.out)
      have t0 := HD7.out.c0
      have t1 := HD7.out.c1
      have tf0 := HD7.out.fz 0
      have tf1 := HD7.out.fz 1
      have tb0 : W7.cell? ⟨w.heap.size, 0, none⟩ = some (.slice a2 n2 c2) := by rw [eW7]; go_simp
      have tb1 : W7.cell? ⟨w.heap.size, 1, none⟩ = some (.int .i64 d) := by rw [eW7]; go_simp
      have hs7 : W3.heap.size ≤ W7.heap.size := by rw [eW7]; first | omega | (simp; omega)
      have hb7 := doer_lt HD7.out
      have hz7 : w.heap.size < W7.heap.size := by omega
      have hnz7 : ¬ w.heap.size = W7.heap.size := by omega
      have hnb7 : ¬ b = W7.heap.size := by omega
      clear eW7 q0 q1 qf0 qf1 qb0 qb1 HGO HD6 HX6 hx6
      have HIN := Lib.hid (fun (V : World) (hx : Ext W7 V) (vb : Nat) (hv : V.heap[vb]? = some (.cells #[.slice a2 n2 c2, .int .i64 d] 47 (0, 0))) (hge : W7.heap.size ≤ vb) =>
        insert_anyG (base := B) (F := fun j => B ≤ j ∧ j ≠ b ∧ some j ≠ (Value.slice a4 n4 c4).ownBlock) (G := fun j => w0.heap.size ≤ j ∧ j ≤ w.heap.size) (x := (p, d)) (i := pg) (osl_ext gMk HD7.out.og hx) HPL.out hn hv (gMk.ext HM7.out hx)
          (fun k hk hlt => ⟨⟨by omega, by omega, fun e => (HD7.out.ra k e.symm).2.2 (HYM.out k hk.1 hk.2)⟩, fun e => (HD7.out.rg k e.symm).2 (HYM.out k hk.1 hk.2)⟩) (fun e => by have := (osl_lt HD7.out.og vb e.symm).2; omega) ⟨by omega, by omega, fun e => by have := (osl_lt HD7.out.oa vb e.symm).2; omega⟩ (by have := hx.size; omega))
      go_region_law (go_simp; go_at_call 144; go_must ((with_reducible refine (HIN.out _ extA _ (by first | exact alloc_newd _ _ | exact alloc_new' _ _ | exact alloc_newe _ _) (by first | omega | (simp <;> omega))).mono ?_); rintro e w8 ⟨v8, rfl, hv8, hg8, hat8⟩; obtain ⟨a8, n8, c8, rfl⟩ := osl_slice hv8; have HV8 := Lib.hid (doer_set1 (doer_ext HD7.out extA) hv8 hg8 hat8 (fun j hj => by have := HYL.out j hj; first | omega | (simp <;> omega))); have hbk8 := hg8.block b (by first | omega | (simp <;> omega)) (fun e => (HD7.out.rg b e.symm).1 rfl); have r1 := (World.cell?_of_block (a := ⟨b, 1, none⟩) hbk8).trans (show _ = some (.slice au nu cu) by first | assumption | go_simp); have rf1 := (World.frozen?_of_block (a := ⟨b, 1, none⟩) hbk8).trans (show _ = false by first | assumption | go_simp); clear hv8 hg8 hat8 hbk8))
      all_goals go_wp2_with fail
      all_goals (go_end0; refine ⟨rfl, ⟨_, _, doer_z (by rw [HE.out, HTE.out]; exact HV8.out.1) (fun j hj => .inl (HYZ.out j hj))⟩, (kept_trans (kept_trans (kept_ext HX3.out) HK5.out) (kept_trans (kept_trans (kept_ext HX7.out) (kept_ext extA)) HV8.out.2)).less HYZ.out⟩)
  | false =>
    have HTE := Lib.hid (takeA_noM hm)
    generalize placeA la (p, d) = pa at *
    clear hm
    cases hh : hasG lg (p, d) with
    | true =>
      have HE := Lib.hid (putG_has HG.out hh)
      have HPL := Lib.hid (placeG_le lg (p, d))
      have hgn := fun (V : World) (vu : Value) (hc : V.cell? ⟨b, 1, none⟩ = some vu) {F1 : Nat → Prop} (hu : RSl RMk 2 F1 V vu lg) {G1 : Nat → Prop} {cs : List Value} (hm : RMk G1 V cs (p, d)) => gone_any hc hu hm HG.out (by omega)
      rw [hh] at hgn
      generalize placeG lg (p, d) = pg at *
      have HGN := Lib.hid hgn
      clear hgn hh
      have HD5 := HD3
      have HK5 : Hid (Kept Y W3 W3) := Lib.hid kept_refl
      have HMW : Hid (RMk (fun j => w0.heap.size ≤ j ∧ j ≤ w.heap.size) W3 [.slice a2 n2 c2, .int .i64 d] (p, d)) := Lib.hid (gMk.keep ((kept_trans (kept_ext HX3.out) HK5.out).less (fun j hj => HYM.out j hj.1 hj.2)).keeps HMK.out)
      have HGO := Lib.hid (fun (V : World) (hx : Ext W3 V) => (HGN.out V _ (doer_ext HD5.out hx).c1 (doer_gone (doer_ext HD5.out hx)) (gMk.ext HMW.out hx) : Calls Tryz.prog 142 #[.pointer (some ⟨b, 0, none⟩), .agg #[.slice a2 n2 c2, .int .i64 d]] V (fun e w' => e = .returned (.tuple #[.int .i64 (pg : Nat), .bool true]) ∧ Ext V w')))
      go_wp2_with (first | (go_at_call 142; go_must ((with_reducible refine (HGO.out _ extA).mono ?_); rintro e w6 ⟨rfl, hx6⟩; have hs6 := hx6.size; (try simp at hs6); have HX6 := Lib.hid (show Ext W3 w6 from ext_trans extA hx6); have HD6 := Lib.hid (doer_ext HD5.out HX6.out); have q0 := HD6.out.c0; have q1 := HD6.out.c1; have qf0 := HD6.out.fz 0; have qf1 := HD6.out.fz 1; have qb0 := (hx6.cells w.heap.size 0 (by first | omega | (simp <;> omega))).trans (show _ = some (.slice a2 n2 c2) by first | assumption | go_simp); have qb1 := (hx6.cells w.heap.size 1 (by first | omega | (simp <;> omega))).trans (show _ = some (.int .i64 d) by first | assumption | go_simp))))
      (go_end0; refine ⟨rfl, ⟨_, _, doer_z (by rw [HE.out, HTE.out]; exact HD6.out) (fun j hj => .inl (HYZ.out j hj))⟩, (kept_trans (kept_trans (kept_ext HX3.out) HK5.out) (kept_ext HX6.out)).less HYZ.out⟩)
    | false =>
      have HE := Lib.hid (putG_new HG.out hh)
      have HPL := Lib.hid (placeG_le lg (p, d))
      have hgn := fun (V : World) (vu : Value) (hc : V.cell? ⟨b, 1, none⟩ = some vu) {F1 : Nat → Prop} (hu : RSl RMk 2 F1 V vu lg) {G1 : Nat → Prop} {cs : List Value} (hm : RMk G1 V cs (p, d)) => gone_any hc hu hm HG.out (by omega)
      rw [hh] at hgn
      generalize placeG lg (p, d) = pg at *
      have HGN := Lib.hid hgn
      clear hgn hh
      have HD5 := HD3
      have HK5 : Hid (Kept Y W3 W3) := Lib.hid kept_refl
      have HMW : Hid (RMk (fun j => w0.heap.size ≤ j ∧ j ≤ w.heap.size) W3 [.slice a2 n2 c2, .int .i64 d] (p, d)) := Lib.hid (gMk.keep ((kept_trans (kept_ext HX3.out) HK5.out).less (fun j hj => HYM.out j hj.1 hj.2)).keeps HMK.out)
      have HGO := Lib.hid (fun (V : World) (hx : Ext W3 V) => (HGN.out V _ (doer_ext HD5.out hx).c1 (doer_gone (doer_ext HD5.out hx)) (gMk.ext HMW.out hx) : Calls Tryz.prog 142 #[.pointer (some ⟨b, 0, none⟩), .agg #[.slice a2 n2 c2, .int .i64 d]] V (fun e w' => e = .returned (.tuple #[.int .i64 (pg : Nat), .bool false]) ∧ Ext V w')))
      go_wp2_with (first | (go_at_call 142; go_must ((with_reducible refine (HGO.out _ extA).mono ?_); rintro e w6 ⟨rfl, hx6⟩; have hs6 := hx6.size; (try simp at hs6); have HX6 := Lib.hid (show Ext W3 w6 from ext_trans extA hx6); have HD6 := Lib.hid (doer_ext HD5.out HX6.out); have q0 := HD6.out.c0; have q1 := HD6.out.c1; have qf0 := HD6.out.fz 0; have qf1 := HD6.out.fz 1; have qb0 := (hx6.cells w.heap.size 0 (by first | omega | (simp <;> omega))).trans (show _ = some (.slice a2 n2 c2) by first | assumption | go_simp); have qb1 := (hx6.cells w.heap.size 1 (by first | omega | (simp <;> omega))).trans (show _ = some (.int .i64 d) by first | assumption | go_simp))))
      refine wp_name (fun W7 eW7 => ?_)
      have HX7 := Lib.hid (show Ext W3 W7 by rw [eW7]; exact HX6.out)
      have HD7 := Lib.hid (doer_ext HD5.out HX7.out)
      have HM7 := Lib.hid (gMk.ext HMW.out HX7.out)
      have t0 := HD7.out.c0
      have t1 := HD7.out.c1
      have tf0 := HD7.out.fz 0
      have tf1 := HD7.out.fz 1
      have tb0 : W7.cell? ⟨w.heap.size, 0, none⟩ = some (.slice a2 n2 c2) := by rw [eW7]; go_simp
      have tb1 : W7.cell? ⟨w.heap.size, 1, none⟩ = some (.int .i64 d) := by rw [eW7]; go_simp
      have hs7 : W3.heap.size ≤ W7.heap.size := by rw [eW7]; first | omega | (simp; omega)
      have hb7 := doer_lt HD7.out
      have hz7 : w.heap.size < W7.heap.size := by omega
      have hnz7 : ¬ w.heap.size = W7.heap.size := by omega
      have hnb7 : ¬ b = W7.heap.size := by omega
      clear eW7 q0 q1 qf0 qf1 qb0 qb1 HGO HD6 HX6 hx6
      have HIN := Lib.hid (fun (V : World) (hx : Ext W7 V) (vb : Nat) (hv : V.heap[vb]? = some (.cells #[.slice a2 n2 c2, .int .i64 d] 47 (0, 0))) (hge : W7.heap.size ≤ vb) =>
        insert_anyG (base := B) (F := fun j => B ≤ j ∧ j ≠ b ∧ some j ≠ (Value.slice av nv cv).ownBlock) (G := fun j => w0.heap.size ≤ j ∧ j ≤ w.heap.size) (x := (p, d)) (i := pg) (osl_ext gMk HD7.out.og hx) HPL.out hn hv (gMk.ext HM7.out hx)
          (fun k hk hlt => ⟨⟨by omega, by omega, fun e => (HD7.out.ra k e.symm).2.2 (HYM.out k hk.1 hk.2)⟩, fun e => (HD7.out.rg k e.symm).2 (HYM.out k hk.1 hk.2)⟩) (fun e => by have := (osl_lt HD7.out.og vb e.symm).2; omega) ⟨by omega, by omega, fun e => by have := (osl_lt HD7.out.oa vb e.symm).2; omega⟩ (by have := hx.size; omega))
      go_region_law (go_simp; go_at_call 144; go_must ((with_reducible refine (HIN.out _ extA _ (by first | exact alloc_newd _ _ | exact alloc_new' _ _ | exact alloc_newe _ _) (by first | omega | (simp <;> omega))).mono ?_); rintro e w8 ⟨v8, rfl, hv8, hg8, hat8⟩; obtain ⟨a8, n8, c8, rfl⟩ := osl_slice hv8; have HV8 := Lib.hid (doer_set1 (doer_ext HD7.out extA) hv8 hg8 hat8 (fun j hj => by have := HYL.out j hj; first | omega | (simp <;> omega))); have hbk8 := hg8.block b (by first | omega | (simp <;> omega)) (fun e => (HD7.out.rg b e.symm).1 rfl); have r1 := (World.cell?_of_block (a := ⟨b, 1, none⟩) hbk8).trans (show _ = some (.slice au nu cu) by first | assumption | go_simp); have rf1 := (World.frozen?_of_block (a := ⟨b, 1, none⟩) hbk8).trans (show _ = false by first | assumption | go_simp); clear hv8 hg8 hat8 hbk8))
      all_goals go_wp2_with fail
      all_goals (go_end0; refine ⟨rfl, ⟨_, _, doer_z (by rw [HE.out, HTE.out]; exact HV8.out.1) (fun j hj => .inl (HYZ.out j hj))⟩, (kept_trans (kept_trans (kept_ext HX3.out) HK5.out) (kept_trans (kept_trans (kept_ext HX7.out) (kept_ext extA)) HV8.out.2)).less HYZ.out⟩)
end Go.Proofs.YtfgfdohppgoajaaGreat
/- Atoms that are put among atoms, by the program. -/
namespace Go.Proofs.YtfgfdohppgoajaaGreat
open Go Go.RowKit Go.BigFrame Cp

theorem oat_at {e base : Nat} {F : Nat → Prop} {w : World} {a : Option Addr} {n c : Nat} {q : List At} (h : OSl RAt 3 e base F w (.slice a n c) q) {i : Nat} (hi : i < q.length) :
    ∃ g p d s ap cp, a = some ⟨g, 0, none⟩ ∧ base ≤ g ∧ g < w.heap.size ∧ q[i]? = some ((p, d), s) ∧
      w.cell? ⟨g, i * 3, none⟩ = some (.slice ap p.length cp) ∧ w.cell? ⟨g, i * 3 + 1, none⟩ = some (.int .i64 d) ∧ w.cell? ⟨g, i * 3 + 2, none⟩ = some (.int .u8 (s : UInt8).toNat) ∧ w.frozen? ⟨g, i * 3 + 2, none⟩ = false := by
  obtain ⟨g, x, cs, _, ha, hb, hs, hx, _, hr, ⟨v, rfl, h1, h2⟩, hf⟩ := osl_at h hi
  obtain ⟨ap, np, cp, rfl⟩ := h1.slice
  obtain ⟨rfl, _, _⟩ := h1.len
  obtain ⟨⟨p, d⟩, s⟩ := x
  exact ⟨g, p, d, s, ap, cp, ha, hb, hs, hx, by simpa using hr 0 _ rfl, by simpa [Nat.add_assoc] using hr 1 _ rfl, by simpa [Nat.add_assoc] using hr 2 _ rfl, hf _⟩
theorem put_sign {e base : Nat} {F : Nat → Prop} {w : World} {g n c : Nat} {q : List At} (h : OSl RAt 3 e base F w (.slice (some ⟨g, 0, none⟩) n c) q) {i : Nat} (hi : i < q.length) {m : Mk} {s t : UInt8} (he : q[i]? = some (m, s)) :
    OSl RAt 3 e base F (w.setCell ⟨g, i * 3 + 2, none⟩ (.int .u8 t.toNat)) (.slice (some ⟨g, 0, none⟩) n c) (q.set i (m, t)) := by
  refine osl_put gAt h hi (by omega) (fun G W cs y hy hr => ?_)
  rw [he] at hy
  have : (m, s) = y := by simpa using hy
  subst this
  obtain ⟨v, rfl, h1, h2⟩ := hr
  exact ⟨v, rfl, h1, h2⟩
theorem mn_val (x y : UInt8) : (if y.toNat < x.toNat then ((y.toNat : Nat) : Int) else ((x.toNat : Nat) : Int)) = (((mnS x y).toNat : Nat) : Int) := by
  unfold mnS
  by_cases h : y < x
  · rw [if_pos h, if_pos (UInt8.lt_iff_toNat_lt.1 h)]
  · rw [if_neg h, if_neg (fun h2 => h (UInt8.lt_iff_toNat_lt.2 h2))]
set_option maxRecDepth 100000 in
set_option maxHeartbeats 4000000 in
theorem merge_any {F1 F2 : Nat → Prop} {w : World} {v u : Value} {l m : List At} (h : RSl RAt 3 F1 w v l) (k : RSl RAt 3 F2 w u m) (hl : RightA l) (hm : RightA m) (hl3 : l.length ≤ 300) (hm3 : m.length ≤ 300) :
    Calls Tryz.prog 68 #[v, u] w (IsOwnA (mergeA l m) w) := by
  have HO1 := Lib.hid (fun (W : World) (hx : Ext w W) => ownAtoms_any (h.ext gAt hx) (by omega) (fun a ha => check_len (hl.2 a ha).1))
  have HO2 := Lib.hid (fun (W : World) (hx : Ext w W) => ownAtoms_any (k.ext gAt hx) (by omega) (fun a ha => check_len (hm.2 a ha).1))
  have HRL := Lib.hid hl
  have HRM := Lib.hid hm
  obtain ⟨a0, n0, c0, rfl⟩ := h.slice
  obtain ⟨a1, n1, c1, rfl⟩ := k.slice
  clear h k hl hm
  go_enter Tryz.func68, Tryz.ntmps68
  go_wp2_with (first
    | (go_at_call 72; (have HO1' := HO1); go_must ((with_reducible refine (HO1.out _ extA).mono ?_); rintro e w1 ⟨v1, rfl, hv1, hx1⟩; clear HO1; have HV1 := Lib.hid hv1; obtain ⟨a2, n2, c2, rfl⟩ := osl_slice hv1; have hz1 := hx1.size; have HB1' := Lib.hid (osl_lt hv1); clear hv1))
    | (go_at_call 72; go_must ((with_reducible refine (HO2.out _ extA).mono ?_); rintro e w2 ⟨v2, rfl, hv2, hx2⟩; obtain ⟨a3, n3, c3, rfl⟩ := osl_slice hv2; obtain rfl : n3 = m.length := (osl_len hv2).1; have hz2 := hx2.size; have HM2 := Lib.hid (RSl.more (G := fun j => w1.heap.size ≤ j ∧ j < w2.heap.size) gAt (fun j hj hlt => ⟨hj, hlt⟩) (osl_rsl gAt hv2 (G := fun j => w1.heap.size ≤ j) (fun j hj _ => hj) (fun j hj => hj))); clear hv2; have HV1x := Lib.hid (osl_ext gAt HV1.out hx2); clear HV1; have HV1 := HV1x; clear HV1x; have HB1 : Hid (∀ j, (Value.slice a2 n2 c2).ownBlock = some j → j < w1.heap.size ∨ w2.heap.size ≤ j) := Lib.hid (fun j hj => .inl (HB1'.out j hj).2))))
  go_loopw [5, 15] (fun ov iv wr => ∃ k : Nat, k ≤ m.length ∧ iv = .int .i64 k ∧ Hid (OSl RAt 3 83 w.heap.size (fun j => w.heap.size ≤ j) wr ov (mergeA l (m.take k))) ∧ Hid (∀ j, ov.ownBlock = some j → j < w1.heap.size ∨ w2.heap.size ≤ j) ∧ Hid (RSl RAt 3 (fun j => w1.heap.size ≤ j ∧ j < w2.heap.size) wr (.slice a3 m.length c3) m) ∧ Hid (w2.heap.size ≤ wr.heap.size) ∧ Ext w wr) (fun _ iv _ => m.length - (intOf iv).toNat)
  case atStart => exact ⟨0, Nat.zero_le _, rfl, Lib.hid HV1.out, HB1, HM2, Lib.hid (Nat.le_refl _), ext_trans hx1 hx2⟩
  case round =>
    obtain ⟨k, hk, rfl, HO, HB, HK, HS, hx⟩ := hrel
    have hzr := hx.size
    have HX := Lib.hid hx
    have hs2 := HS.out
    clear hx
    obtain ⟨a5, n5, c5, rfl⟩ := osl_slice HO.out
    by_cases hlt : k < m.length
    · obtain ⟨b, o, p, d, s, ap, cp, rfl, hb, ek, ick, hpp, y0, y1, y2⟩ := atm_at HK.out hlt
      have hra := HRM.out.2 _ (List.mem_of_getElem? ek)
      have HEK := Lib.hid (mergeA_take (l := l) ek)
      have HRQ := Lib.hid (mergeA_right (m := m.take k) HRL.out (fun a ha => HRM.out.2 a (List.mem_of_mem_take ha)))
      have hql : (mergeA l (m.take k)).length ≤ 600 := by have h1 := mergeA_len (m.take k) l; rw [List.length_take] at h1; omega
      have HOL := Lib.hid (osl_lt HO.out)
      have hnb : ¬ b = wr.heap.size := by omega
      have HIC := Lib.hid ick
      have HPP := Lib.hid hpp
      generalize mergeA l (m.take k) = q at *
      obtain rfl : n5 = q.length := (osl_len HO.out).1
      have HFD := Lib.hid (fun (W : World) (hx : Ext wr W) => findA_any (osl_rsl gAt (osl_ext gAt HO.out hx) (G := fun _ => True) (fun _ _ _ => trivial) (fun _ _ => trivial)) (rmk_of' (hpp.ext gStp hx) ick) HRQ.out.1 (by omega))
      clear ek ick hpp hra
      cases hh : hasM q (p, d) with
      | false =>
        have HPN := Lib.hid (putA_new (a := ((p, d), s)) HRQ.out.1 hh)
        have hpl := placeA_le q (p, d)
        rw [hh] at HFD
        simp only at HPN
        generalize placeA q (p, d) = i at *
        clear hh
        go_wp2_with (first
          | (go_at_call 86; go_must ((with_reducible refine (HFD.out _ extA).mono ?_); rintro e w4 ⟨rfl, hx4⟩; have hz4 := hx4.size; (try simp at hz4); have hb4 : wr.heap.size < w4.heap.size := (by omega); have q0 := (hx4.cells (wr.heap.size) (0) (by first | omega | (simp <;> omega))).trans (show _ = some (.slice ap p.length cp) by first | assumption | go_simp); have q1 := (hx4.cells (wr.heap.size) (1) (by first | omega | (simp <;> omega))).trans (show _ = some (.int .i64 d) by first | assumption | go_simp); have q2 := (hx4.cells (wr.heap.size) (2) (by first | omega | (simp <;> omega))).trans (show _ = some (.int .u8 s.toNat) by first | assumption | go_simp)))
          | (go_at_call 118; go_must ((with_reducible refine (insert_any (base := w.heap.size) (F := fun j => w.heap.size ≤ j) (G := fun j => (w1.heap.size ≤ j ∧ j < w2.heap.size)) (x := ((p, d), s)) (osl_ext gAt HO.out extA) (by omega) (by omega) (alloc_new' _ _) (rat_of (HPP.out.ext gStp extA) HIC.out) (fun j hj _ => ⟨(show w.heap.size ≤ j by omega), fun e => by have := HB.out j e.symm; omega⟩) (fun e => by have := (HOL.out _ e.symm).2; omega) (show w.heap.size ≤ _ by omega) (by first | omega | (simp <;> omega))).mono ?_); rintro e w5 ⟨v5, rfl, hv5, hg5, hat5⟩; obtain ⟨a6, n6, c6, rfl⟩ := osl_slice hv5; have hx5 : Ext w w5 := ext_grow (ext_trans HX.out extA) hg5 (fun j hj => (HOL.out j hj).1); have HK5 := Lib.hid (RSl.keep gAt ⟨hg5.size, fun j hj hlt => hg5.block j hlt (fun e => by obtain ⟨g1, g2⟩ := hj; have := HB.out j e.symm; omega)⟩ (HK.out.ext gAt extA)); have hs5 : w2.heap.size ≤ w5.heap.size := (by have := hg5.size; first | omega | (simp at this; omega)); have HB5 : Hid (∀ j, (Value.slice a6 n6 c6).ownBlock = some j → j < w1.heap.size ∨ w2.heap.size ≤ j) := Lib.hid (fun j hj => hat5.elim (fun h => HB.out j (h.symm.trans hj)) (fun h => .inr (by have e := Option.some.inj (h.symm.trans hj); first | omega | (simp at e; omega)))); have HV5 := Lib.hid hv5; clear hv5 hg5 hat5)))
        go_roundw
        case rel => exact ⟨k + 1, by omega, by go_num, Lib.hid (by rw [HEK.out, HPN.out]; exact HV5.out), HB5, HK5, Lib.hid hs5, hx5⟩
        case measure => simp [intOf]; omega
      | true =>
        obtain ⟨x, hx1', hx2', hx3'⟩ := putA_has (a := ((p, d), s)) HRQ.out.1 hh
        rw [hh] at HFD
        simp only at hx1' hx2' hx3'
        generalize placeA q (p, d) = i at *
        have hiq : i < q.length := (List.getElem?_eq_some_iff.1 hx1').1
        obtain ⟨g, p5, d5, s5, ap5, cp5, rfl, hbg, hgs, ex5, z0, z1, z2, zf⟩ := oat_at HO.out hiq
        obtain rfl : x = ((p5, d5), s5) := by rw [ex5] at hx1'; exact (Option.some.inj hx1').symm
        have HPT := Lib.hid (fun (W : World) (hx : Ext wr W) => put_sign (t := mnS s5 s) (osl_ext gAt HO.out hx) hiq ex5)
        have HPE := Lib.hid hx3'
        have hmn := mn_val s5 s
        have hgb := HB.out g rfl
        have ii0 : (0 : Int) ≤ (i : Int) := Int.natCast_nonneg i
        have ii1 : (i : Int) < (q.length : Int) := Int.ofNat_lt.2 hiq
        have hgn : ¬ g = wr.heap.size := by omega
        have hgn' : ¬ wr.heap.size = g := by omega
        clear hh hx1' hx2' hx3' ex5
        go_wp2_with (first
          | (go_at_call 86; go_must ((with_reducible refine (HFD.out _ extA).mono ?_); rintro e w4 ⟨rfl, hx4⟩; have hz4 := hx4.size; (try simp at hz4); have hb4 : wr.heap.size < w4.heap.size := (by omega); have q0 := (hx4.cells (wr.heap.size) (0) (by first | omega | (simp <;> omega))).trans (show _ = some (.slice ap p.length cp) by first | assumption | go_simp); have q1 := (hx4.cells (wr.heap.size) (1) (by first | omega | (simp <;> omega))).trans (show _ = some (.int .i64 d) by first | assumption | go_simp); have q2 := (hx4.cells (wr.heap.size) (2) (by first | omega | (simp <;> omega))).trans (show _ = some (.int .u8 s.toNat) by first | assumption | go_simp); have q3 := (hx4.cells (g) (i * 3 + 2) (by first | omega | (simp <;> omega))).trans (show _ = some (.int .u8 s5.toNat) by first | assumption | go_simp); have qf0 := (hx4.frz (g) (i * 3 + 2) (by first | omega | (simp <;> omega))).trans (show _ = false by first | assumption | go_simp))))
        refine wp_region_tail 10 fol (by kernel_rfl) (fun W hW => ?_)
        subst hW
        simp only [List.take_succ_cons, List.take_zero, List.drop_succ_cons, List.drop_zero]
        repeat (go_big_quiet_step (fail))
        refine wpQuiet_nil ?_
        go_wp2_with fail
        go_roundw
        case rel =>
          (try rw [hmn])
          have hw4 : Ext wr w4 := extA
          exact ⟨k + 1, by omega, by go_num, Lib.hid (osl_ext gAt (by rw [HEK.out, HPE.out]; exact HPT.out _ hw4) (ext_drew (ext_refl _))), Lib.hid (fun j hj => HB.out j hj), Lib.hid (RSl.keep gAt (keeps_drew (keeps_set keeps_refl (fun _ (hj : w1.heap.size ≤ g ∧ g < w2.heap.size) => by omega) _)) (HK.out.ext gAt hw4)), Lib.hid (by have := hw4.size; simp; omega), ext_drew (ext_set (ext_trans HX.out hw4) hbg _)⟩
        case measure => simp [intOf]; omega
    · have hkl : k = m.length := by omega
      subst hkl
      have HF := Lib.hid (show OSl RAt 3 83 w.heap.size (fun j => w.heap.size ≤ j) wr (.slice a5 n5 c5) (mergeA l m) by have := HO.out; rwa [List.take_of_length_le (Nat.le_refl _)] at this)
      go_wp2
      go_ret
      exact ⟨_, rfl, HF.out, HX.out⟩
end Go.Proofs.YtfgfdohppgoajaaGreat
