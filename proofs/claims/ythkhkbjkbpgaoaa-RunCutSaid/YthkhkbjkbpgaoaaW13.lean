/- Are two paths one? · The gap between two paths. -/
import Derived.Test.YthkhkbjkbpgaoaaW12
set_option linter.unusedVariables false
set_option linter.unusedSimpArgs false
namespace Go.Proofs.Ythkhkbjkbpgaoaa
open Go Go.RowKit Cp

/-- are two steps one? -/
def eqS (s t : Stp) : Bool := decide (s = t)
theorem hS_stp : Try.prog.underlying 96 = some (.struct (Try.prog.fieldsOf 96)) := by kernel_rfl
theorem hp_stp : Try.prog.stoodInHeld 96 = false := by kernel_rfl
theorem hg_stp : Try.prog.eqGuardType Try.prog.depth 96 = false := by kernel_rfl
theorem in_stp (x1 y1 x2 y2 : Int) (w : World) : (Op.equalIn 10000 96 (.agg #[.int .i64 x1, .int .i64 y1]) (.agg #[.int .i64 x2, .int .i64 y2])).run Try.prog w = .ok (eqS (x1, y1) (x2, y2)) w := by
  have u3 := Try.underlying3
  have a3 := Try.isAgg3
  have z3 := Try.sizeOf3
  rw [show (10000 : Nat) = 9999 + 1 from rfl, run_equalIn_agg w 9999 96 _ _ hS_stp hp_stp]
  simp only [Program.fieldsOf, Try.underlying96]
  go_simp
  by_cases h1 : x1 = x2 <;> by_cases h2 : y1 = y2 <;> simp [h1, h2, eqS]
theorem eql_stp (x1 y1 x2 y2 : Int) (w : World) : (binOp .eql 96 (.agg #[.int .i64 x1, .int .i64 y1]) (.agg #[.int .i64 x2, .int .i64 y2])).run Try.prog w = .ok (.bool (eqS (x1, y1) (x2, y2))) w := by
  rw [run_eql_struct, in_stp]; rfl
theorem neq_stp (x1 y1 x2 y2 : Int) (w : World) : (binOp .neq 96 (.agg #[.int .i64 x1, .int .i64 y1]) (.agg #[.int .i64 x2, .int .i64 y2])).run Try.prog w = .ok (.bool (!eqS (x1, y1) (x2, y2))) w := by
  rw [run_neq_struct, in_stp]; rfl
theorem eqPath_step {l m : List Stp} {k : Nat} {s t : Stp} (h1 : l[k]? = some s) (h2 : m[k]? = some t) : decide (l.drop k = m.drop k) = (eqS s t && decide (l.drop (k + 1) = m.drop (k + 1))) := by
  obtain ⟨a1, b1⟩ := List.getElem?_eq_some_iff.1 h1
  obtain ⟨a2, b2⟩ := List.getElem?_eq_some_iff.1 h2
  rw [List.drop_eq_getElem_cons a1, List.drop_eq_getElem_cons a2, b1, b2]
  simp [Bool.decide_and, eqS]

set_option maxRecDepth 100000 in
set_option maxHeartbeats 800000 in
theorem equalPaths_any {F G : Nat → Prop} {w : World} {v u : Value} {l m : List Stp} (hl : RSl RStp 2 F w v l) (hm : RSl RStp 2 G w u m) :
    Calls Try.prog 92 #[v, u] w fun e w' => e = .returned (.bool (decide (l = m))) ∧ Ext w w' := by
  obtain ⟨a1, n1, c1, rfl⟩ := hl.slice
  obtain ⟨a2, n2, c2, rfl⟩ := hm.slice
  obtain ⟨rfl, k1, k1'⟩ := hl.len
  obtain ⟨rfl, k2, k2'⟩ := hm.len
  unfold maxLen at k1' k2'
  have q1 : l.length ≤ 9223372036854775807 := by omega
  have q2 : m.length ≤ 9223372036854775807 := by omega
  clear k1 k1' k2 k2'
  have HL := Lib.hid hl
  have HM := Lib.hid hm
  clear hl hm
  have hg := hg_stp
  have hneq := neq_stp
  by_cases hlen : l.length = m.length
  · have t0 : ((l.length : Int) != (m.length : Int)) = false := by rw [hlen]; simp
    have HLEN := Lib.hid hlen
    have hle : l.length ≤ m.length := by omega
    clear hlen
    go_enter Try.func92, Try.ntmps92
    go_wp2
    go_loopw [13] (fun i wr => ∃ k : Nat, k ≤ l.length ∧ i = .int .i64 k ∧ Hid (decide (l = m) = decide (l.drop k = m.drop k)) ∧ Ext w wr) (fun i _ => l.length - (intOf i).toNat)
    case atStart => exact ⟨0, by omega, rfl, Lib.hid (by simp), ext_refl _⟩
    case round =>
      obtain ⟨k, hk1, rfl, ho, hx⟩ := hrel
      have HX := Lib.hid hx
      clear hx
      by_cases h1 : k < l.length
      · have h2 : k < m.length := by omega
        obtain ⟨b1, o1, x1, y1, rfl, hb1, e1, _, _, ca, cb⟩ := stp_at (HL.out.ext gStp HX.out) h1
        obtain ⟨b2, o2, x2, y2, rfl, hb2, e2, _, _, cc, cd⟩ := stp_at (HM.out.ext gStp HX.out) h2
        have HA := Lib.hid (eqPath_step e1 e2)
        clear e1 e2 hb1 hb2
        cases t1 : eqS (x1, y1) (x2, y2) with
        | true =>
          have HB := Lib.hid (show decide (l = m) = decide (l.drop (k + 1) = m.drop (k + 1)) by rw [ho.out, HA.out, t1, Bool.true_and])
          go_wp2
          go_quiet (fail)
          go_wp2
          go_roundw
          case rel => exact ⟨k + 1, by omega, by go_num, HB, ext_drewN HX.out _⟩
          case measure => simp [intOf]; omega
        | false =>
          have HB := Lib.hid (show decide (l = m) = false by rw [ho.out, HA.out, t1, Bool.false_and])
          go_wp2
          go_quiet (fail)
          go_wp2
          go_ret
          exact ⟨rb HB.out.symm, ext_drewN HX.out _⟩
      · have HB := Lib.hid (show decide (l = m) = true by
          rw [ho.out, List.drop_eq_nil_of_le (by omega), List.drop_eq_nil_of_le (by have := HLEN.out; omega)]; simp)
        go_wp2
        go_ret
        exact ⟨rb HB.out.symm, HX.out⟩
  · have t0 : ((l.length : Int) != (m.length : Int)) = true := by rw [bne_iff_ne]; omega
    have HB := Lib.hid (show decide (l = m) = false from decide_eq_false (fun e => hlen (by rw [e])))
    clear hlen
    go_enter Try.func92, Try.ntmps92
    go_wp2
    go_ret
    exact ⟨rb HB.out.symm, ext_refl _⟩
end Go.Proofs.Ythkhkbjkbpgaoaa
