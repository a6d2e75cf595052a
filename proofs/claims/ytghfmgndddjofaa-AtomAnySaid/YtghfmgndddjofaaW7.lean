/- Marks made anew: Clone, Own, After, AfterOf. -/
import Derived.Test.YtghfmgndddjofaaW1
import Derived.Test.YtghfmgndddjofaaOwn
import Derived.Test.YtghfmgndddjofaaW5
set_option linter.unusedVariables false
set_option linter.unusedSimpArgs false
namespace Go.Proofs.Ytghfmgndddjofaa
open Go Go.RowKit Cp

theorem info_step : (Try.prog.info? 141).map (fun i => (i.zero, i.size, i.bytes)) = some (some (.agg #[.int .i64 0, .int .i64 0]), 2, 16) := by kernel_rfl
/-- a slice of steps, all in new memory -/
def IsSteps (l : List Stp) (w : World) (e : Ending) (w' : World) : Prop := ∃ v, e = .returned v ∧ OSl RStp 2 141 w.heap.size (fun _ => True) w' v l ∧ Ext w w'
/-- a mark, all in new memory -/
def IsMark (m : Mk) (w : World) (e : Ending) (w' : World) : Prop := ∃ cs, e = .returned (.agg cs.toArray) ∧ OMk 141 w.heap.size w' cs m ∧ Ext w w'

set_option maxRecDepth 100000 in
theorem cloneSteps_any {F : Nat → Prop} {w : World} {v : Value} {l : List Stp} (h : RSl RStp 2 F w v l) (hsz : l.length ≤ 8000000000000) :
    Calls Try.prog 143 #[v] w (IsSteps l w) := by
  obtain ⟨a1, n1, c1, rfl⟩ := h.slice
  obtain ⟨rfl, k1, k1'⟩ := h.len
  have hnil := fun (W : World) (a : Option Addr) (n c : Nat) => Lib.run_eql_slice_nil (P := Try.prog) W 73 141 a n c 0 0 Try.underlying73
  obtain ⟨i0, hi, hz0, hz1, hz2⟩ := info_parts info_step
  cases a1 with
  | none =>
    have e0 : l = [] := by
      cases l with
      | nil => rfl
      | cons a r => obtain ⟨b, o, x, cs, e, _⟩ := h.at_ (i := 0) (by simp); cases e
    subst e0
    go_enter Try.func143, Try.ntmps143
    go_wp2_with fail
    all_goals go_ret
    all_goals exact ⟨_, rfl, osl_nil, ext_refl _⟩
  | some ad =>
    have H := Lib.hid (h.more gStp (G := fun k => k < w.heap.size) (fun _ _ hk => hk))
    clear h k1 k1'
    go_enter Try.func143, Try.ntmps143
    go_wp2_with (at_builtin; refine wpList_appAll gStp rfl (.tmp 5) (.tmp 6) 73 rfl w.heap.size 141 i0 _ 2 16 Try.underlying73 hi hz0 hz1 hz2 rfl (by omega) (F := fun k => k < w.heap.size) (G := fun k => k < w.heap.size) _ [] rfl osl_new _ l rfl (H.out.ext gStp (ext_alloc (ext_refl _) _)) one_stp (fun k hk _ => ⟨hk, ne_own hk⟩) (by simp only [maxLen, List.length_nil]; omega) (by simp only [List.length_nil]; omega) (by simp) ?_; intro v1 w1 hown1 hg1 hat1)
    go_ret
    exact ⟨_, rfl, osl_any leaf_stp hown1, ext_grow (ext_alloc (ext_refl _) _) hg1 (fun k hk => Nat.le_of_eq (own_eq hk))⟩

set_option maxRecDepth 100000 in
theorem own_any {F : Nat → Prop} {w : World} {cs : List Value} {m : Mk} (h : RMk F w cs m) (hsz : m.1.length ≤ 8000000000000) :
    Calls Try.prog 127 #[.agg cs.toArray] w (IsMark m w) := by
  obtain ⟨v, rfl, hl, hi64⟩ := h
  obtain ⟨l, c⟩ := m
  simp only at hl hsz ⊢
  have HL := Lib.hid (fun (W : World) (hx : Ext w W) => cloneSteps_any (hl.ext gStp hx) hsz)
  obtain ⟨a1, n1, c1, rfl⟩ := hl.slice
  clear hl
  have HI := Lib.hid hi64
  clear hi64
  go_enter Try.func127, Try.ntmps127
  go_wp2
  go_region_with (go_at_call 143; refine (HL.out _ (ext_drew (ext_alloc (ext_alloc (ext_refl _) _) _))).mono ?_; rintro e w1 ⟨v1, rfl, hv1, hx1⟩; obtain ⟨a3, n3, c3, rfl⟩ := osl_slice hv1; have HV1 := Lib.hid hv1; clear hv1; have z0 := (hx1.cells w.heap.size 0 (by simp <;> omega)).trans (show _ = some (.slice a1 n1 c1) by go_simp); have z1 := (hx1.cells w.heap.size 1 (by simp <;> omega)).trans (show _ = some (.int .i64 c) by go_simp); have z2 := (hx1.cells (w.heap.size + 1) 0 (by simp <;> omega)).trans (show _ = some (.slice none 0 0) by go_simp); have z3 := (hx1.cells (w.heap.size + 1) 1 (by simp <;> omega)).trans (show _ = some (.int .i64 0) by go_simp); have z4 := (hx1.frz (w.heap.size + 1) 0 (by simp <;> omega)).trans (show _ = false by go_simp); have z5 := (hx1.frz (w.heap.size + 1) 1 (by simp <;> omega)).trans (show _ = false by go_simp))
  all_goals go_wp2
  all_goals refine bodyPost_end (v := .agg #[.slice a3 n3 c3, .int .i64 c]) (by simp [results, Try.results127, go_sem, z2, z3]) rfl ⟨[.slice a3 n3 c3, .int .i64 c], rfl, ⟨_, rfl, ?_, HI.out⟩, ?_⟩
  all_goals first
    | exact osl_leaf lf_stp HV1.out (by repeat (first | exact keeps_refl | refine keeps_drew ?_ | refine keeps_alloc ?_ _ | refine keeps_set ?_ (by simp <;> omega) _)) (by simp <;> omega)
    | exact (by repeat (first | exact ext_refl _ | refine ext_drew ?_ | refine ext_drewN ?_ _ | refine ext_alloc ?_ _ | refine ext_set ?_ (by simp <;> omega) _ | refine ext_call ?_ hx1))

end Go.Proofs.Ytghfmgndddjofaa
