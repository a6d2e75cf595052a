/- What is wrong with a note: step by step. -/
import Derived.Test.YtghfmgndddjofaaN0
set_option linter.unusedVariables false
set_option linter.unusedSimpArgs false
namespace Go.Proofs.Ytghfmgndddjofaa
open Go Go.RowKit Go.BigFrame Cp

def checkDL : List De → Int
  | [] => 0
  | d :: r => if checkD d ≠ 0 then checkD d else checkDL r
def checkN (n : No) : Int :=
  if inB n.site 0 4 = false ∨ inB n.number 1 500 = false then 3
  else if n.needs.length ≠ 5 then 1
  else if n.needs.any badI = true then 3
  else if n.needs[n.site.toNat]?.getD 0 ≠ n.number - 1 then 4
  else if n.deeds.length = 0 then 1
  else if 20 < n.deeds.length then 2
  else checkDL n.deeds
theorem checkDL_bad {l : List De} {k : Nat} {d : De} (h : l[k]? = some d) (h1 : ¬ checkD d = 0) : checkDL (l.drop k) = checkD d := by rw [drop_at h]; unfold checkDL; rw [if_pos h1]
theorem checkDL_next {l : List De} {k : Nat} {d : De} (h : l[k]? = some d) (h1 : checkD d = 0) : checkDL (l.drop k) = checkDL (l.drop (k + 1)) := by
  rw [drop_at h]
  conv => lhs; unfold checkDL
  rw [if_neg (by simpa using h1)]
theorem checkDL_end {l : List De} {k : Nat} (h : l.length ≤ k) : checkDL (l.drop k) = 0 := by rw [List.drop_eq_nil_of_le h]; rfl
theorem deed_at {F : Nat → Prop} {w : World} {a : Option Addr} {n cap : Nat} {q : List De} (h : RSl RDe 7 F w (.slice a n cap) q) {i : Nat} (hi : i < n) :
    ∃ b o d a1 n1 c1 a2 n2 c2 s, a = some ⟨b, o, none⟩ ∧ b < w.heap.size ∧ q[i]? = some d ∧
      RDe F w [.int .i64 d.kind, .slice a1 n1 c1, .int .i64 d.run.1.2, .string s, .slice a2 n2 c2, .int .i64 d.mark.2, .int .i64 d.many] d ∧
      w.cell? ⟨b, o + i * 7, none⟩ = some (.int .i64 d.kind) ∧ w.cell? ⟨b, o + i * 7 + 1, none⟩ = some (.slice a1 n1 c1) ∧ w.cell? ⟨b, o + i * 7 + 2, none⟩ = some (.int .i64 d.run.1.2) ∧
      w.cell? ⟨b, o + i * 7 + 3, none⟩ = some (.string s) ∧ w.cell? ⟨b, o + i * 7 + 4, none⟩ = some (.slice a2 n2 c2) ∧ w.cell? ⟨b, o + i * 7 + 5, none⟩ = some (.int .i64 d.mark.2) ∧ w.cell? ⟨b, o + i * 7 + 6, none⟩ = some (.int .i64 d.many) := by
  obtain ⟨b, o, d, cs, e1, e2, e3, _, e4, hd⟩ := h.at_ hi
  have hd' := hd
  obtain ⟨v, x, u, rfl, h1, h2, h3, h4, h5, h6, h7⟩ := hd
  obtain ⟨a1, n1, c1, rfl⟩ := h2.slice
  obtain ⟨a2, n2, c2, rfl⟩ := h5.slice
  obtain ⟨s, rfl, _⟩ := tx_bytes h4
  exact ⟨b, o, d, a1, n1, c1, a2, n2, c2, s, e1, e2, e3, hd', by simpa using e4 0 _ rfl, by simpa [Nat.add_assoc] using e4 1 _ rfl, by simpa [Nat.add_assoc] using e4 2 _ rfl, by simpa [Nat.add_assoc] using e4 3 _ rfl, by simpa [Nat.add_assoc] using e4 4 _ rfl, by simpa [Nat.add_assoc] using e4 5 _ rfl, by simpa [Nat.add_assoc] using e4 6 _ rfl⟩
section
variable {n : No}
theorem checkN_site (h : inB n.site 0 4 = false) : checkN n = 3 := by unfold checkN; rw [if_pos (.inl h)]
theorem checkN_number (h : inB n.number 1 500 = false) : checkN n = 3 := by unfold checkN; rw [if_pos (.inr h)]
theorem checkN_len (h : inB n.site 0 4 = true) (h2 : inB n.number 1 500 = true) (h3 : n.needs.length ≠ 5) : checkN n = 1 := by unfold checkN; rw [if_neg (by rw [h, h2]; simp), if_pos h3]
theorem checkN_needs (h : inB n.site 0 4 = true) (h2 : inB n.number 1 500 = true) (h3 : n.needs.length = 5) (h4 : n.needs.any badI = true) : checkN n = 3 := by
  unfold checkN; rw [if_neg (by rw [h, h2]; simp), if_neg (by simpa using h3), if_pos h4]
theorem checkN_rest (h : inB n.site 0 4 = true) (h2 : inB n.number 1 500 = true) (h3 : n.needs.length = 5) (h4 : n.needs.any badI = false) : checkN n =
    if n.needs[n.site.toNat]?.getD 0 ≠ n.number - 1 then 4 else if n.deeds.length = 0 then 1 else if 20 < n.deeds.length then 2 else checkDL n.deeds := by
  unfold checkN; rw [if_neg (by rw [h, h2]; simp), if_neg (by simpa using h3), if_neg (by rw [h4]; simp)]
end
theorem site_nat {s : Int} (h : inB s 0 4 = true) : ∃ j : Nat, s = (j : Int) ∧ j < 5 := by
  unfold inB at h
  simp at h
  exact ⟨s.toNat, by omega, by omega⟩
theorem num_rng {s : Int} (h : inB s 1 500 = true) : 1 ≤ s ∧ s ≤ 500 := by
  unfold inB at h
  simpa using h
theorem rno_of {F : Nat → Prop} {w : World} {v u : Value} {s k : Int} {l : List Int} {q : List De} (hs : I64 s) (hk : I64 k) (hl : RSl RInt 1 F w v l) (hq : RSl RDe 7 F w u q) : RNo F w [.int .i64 s, .int .i64 k, v, u] ⟨s, k, l, q⟩ := ⟨v, u, rfl, hs, hk, hl, hq⟩
end Go.Proofs.Ytghfmgndddjofaa
