/- What is wrong with a state: step by step. -/
import Derived.Test.YtghfmgndddjofaaA3
set_option linter.unusedVariables false
set_option linter.unusedSimpArgs false
namespace Go.Proofs.Ytghfmgndddjofaa
open Go Go.RowKit Go.BigFrame Cp

theorem mark_at {F : Nat → Prop} {w : World} {a : Option Addr} {n cap : Nat} {q : List Mk} (h : RSl RMk 2 F w (.slice a n cap) q) {i : Nat} (hi : i < n) :
    ∃ b o p c ap cp, a = some ⟨b, o, none⟩ ∧ b < w.heap.size ∧ q[i]? = some (p, c) ∧ I64 c ∧ RSl RStp 2 F w (.slice ap p.length cp) p ∧
      w.cell? ⟨b, o + i * 2, none⟩ = some (.slice ap p.length cp) ∧ w.cell? ⟨b, o + i * 2 + 1, none⟩ = some (.int .i64 c) := by
  obtain ⟨b, o, x, cs, e1, e2, e3, _, e4, v, rfl, h1, h2⟩ := h.at_ hi
  obtain ⟨ap, np, cp, rfl⟩ := h1.slice
  obtain ⟨rfl, _, _⟩ := h1.len
  exact ⟨b, o, x.1, x.2, ap, cp, e1, e2, e3, h2, h1, by simpa using e4 0 _ rfl, by simpa [Nat.add_assoc] using e4 1 _ rfl⟩

def checkGF (ats : List At) (prev : Option Mk) : List Mk → Int
  | [] => 0
  | m :: r =>
    if checkM m ≠ 0 then checkM m
    else if (match prev with | some p => decide (0 ≤ ordM p m) | none => false) then 4
    else if hasM ats m = true then 4
    else checkGF ats (some m) r
def checkS (s : St) : Int := if checkA s.1 ≠ 0 then checkA s.1 else if 600 < s.2.length then 2 else checkGF s.1 none s.2
def prevG (l : List Mk) (k : Nat) : Option Mk := if k = 0 then none else l[k - 1]?
section
variable {ats : List At} {l : List Mk} {k : Nat} {a b : Mk} {p : Option Mk}
theorem checkS_atoms (h : ¬ checkA ats = 0) : checkS (ats, l) = checkA ats := by unfold checkS; rw [if_pos h]
theorem checkS_many (h : checkA ats = 0) (h2 : 600 < l.length) : checkS (ats, l) = 2 := by unfold checkS; rw [if_neg (by simpa using h), if_pos h2]
theorem checkS_few (h : checkA ats = 0) (h2 : ¬ 600 < l.length) : checkS (ats, l) = checkGF ats (prevG l 0) (l.drop 0) := by unfold checkS; rw [if_neg (by simpa using h), if_neg h2]; rfl
theorem checkA_ok (h : checkA ats = 0) : ats.length ≤ 300 ∧ SortedA ats ∧ ∀ a ∈ ats, checkM a.1 = 0 ∧ signB a.2 = true := by
  by_cases hm : 300 < ats.length
  · rw [checkA_many hm] at h; omega
  · rw [checkA_few hm] at h
    have := checkAF_ok.1 h
    exact ⟨by omega, this.2.1, this.1⟩
theorem checkGF_end (h : l.length ≤ k) : checkGF ats p (l.drop k) = 0 := by rw [List.drop_eq_nil_of_le h]; unfold checkGF; rfl
theorem prevG_next (h : l[k]? = some a) : prevG l (k + 1) = some a := by unfold prevG; rw [if_neg (by omega), Nat.add_sub_cancel, h]
theorem prevG_pos (hb : l[k - 1]? = some b) (hk : 0 < k) : prevG l k = some b := by unfold prevG; rw [if_neg (by omega), hb]
theorem checkGF_mark (h : l[k]? = some a) (h1 : ¬ checkM a = 0) : checkGF ats p (l.drop k) = checkM a := by rw [drop_at h]; unfold checkGF; rw [if_pos h1]
theorem checkGF_bad (h : l[k]? = some a) (hb : l[k - 1]? = some b) (hk : 0 < k) (h1 : checkM a = 0) (h3 : 0 ≤ ordM b a) : checkGF ats (prevG l k) (l.drop k) = 4 := by
  rw [prevG_pos hb hk, drop_at h]; unfold checkGF; rw [if_neg (by rw [h1]; simp), if_pos (by simpa using h3)]
theorem checkGF_first (h : l[k]? = some a) (h1 : checkM a = 0) (hk : k = 0) : checkGF ats (prevG l k) (l.drop k) = if hasM ats a = true then 4 else checkGF ats (prevG l (k + 1)) (l.drop (k + 1)) := by
  rw [prevG_next h, drop_at h]
  subst hk
  have hp : prevG l 0 = none := rfl
  rw [hp]
  conv => lhs; unfold checkGF
  rw [if_neg (by rw [h1]; simp)]
  simp
theorem checkGF_next (h : l[k]? = some a) (hb : l[k - 1]? = some b) (hk : 0 < k) (h1 : checkM a = 0) (h3 : ¬ 0 ≤ ordM b a) : checkGF ats (prevG l k) (l.drop k) = if hasM ats a = true then 4 else checkGF ats (prevG l (k + 1)) (l.drop (k + 1)) := by
  rw [prevG_next h, prevG_pos hb hk, drop_at h]
  conv => lhs; unfold checkGF
  rw [if_neg (by rw [h1]; simp), if_neg (by simpa using h3)]
end
theorem rst_of {F : Nat → Prop} {w : World} {v u : Value} {a : List At} {g : List Mk} (h : RSl RAt 3 F w v a) (k : RSl RMk 2 F w u g) : RSt F w [v, u] (a, g) := ⟨v, u, rfl, h, k⟩
end Go.Proofs.Ytghfmgndddjofaa
