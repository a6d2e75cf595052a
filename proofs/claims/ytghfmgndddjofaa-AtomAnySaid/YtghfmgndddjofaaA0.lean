/- Atoms: as they lie; the order of two; what is wrong with them, step by step. -/
import Derived.Test.YtghfmgndddjofaaD0
import Derived.Test.YtghfmgndddjofaaW3
import Derived.Test.YtghfmgndddjofaaW4
import Derived.Test.YtghfmgndddjofaaW6
import Derived.Test.YtghfmgndddjofaaLate
set_option linter.unusedVariables false
set_option linter.unusedSimpArgs false
namespace Go.Proofs.Ytghfmgndddjofaa
open Go Go.RowKit Go.BigFrame Cp

theorem rmk_of' {F : Nat → Prop} {w : World} {v : Value} {l : List Stp} {c : Int} (h : RSl RStp 2 F w v l) (i : I64 c) : RMk F w [v, .int .i64 c] (l, c) := ⟨v, rfl, h, i⟩
theorem rat_of {F : Nat → Prop} {w : World} {v : Value} {l : List Stp} {c : Int} {s : UInt8} (h : RSl RStp 2 F w v l) (i : I64 c) : RAt F w [v, .int .i64 c, .int .u8 s.toNat] ((l, c), s) := ⟨v, rfl, h, i⟩
theorem atm_at {F : Nat → Prop} {w : World} {a : Option Addr} {n cap : Nat} {q : List At} (h : RSl RAt 3 F w (.slice a n cap) q) {i : Nat} (hi : i < n) :
    ∃ b o p c s ap cp, a = some ⟨b, o, none⟩ ∧ b < w.heap.size ∧ q[i]? = some ((p, c), s) ∧ I64 c ∧ RSl RStp 2 F w (.slice ap p.length cp) p ∧
      w.cell? ⟨b, o + i * 3, none⟩ = some (.slice ap p.length cp) ∧ w.cell? ⟨b, o + i * 3 + 1, none⟩ = some (.int .i64 c) ∧ w.cell? ⟨b, o + i * 3 + 2, none⟩ = some (.int .u8 (s : UInt8).toNat) := by
  obtain ⟨b, o, x, cs, e1, e2, e3, _, e4, v, rfl, h1, h2⟩ := h.at_ hi
  obtain ⟨ap, np, cp, rfl⟩ := h1.slice
  obtain ⟨rfl, _, _⟩ := h1.len
  exact ⟨b, o, x.1.1, x.1.2, x.2, ap, cp, e1, e2, e3, h2, h1, by simpa using e4 0 _ rfl, by simpa [Nat.add_assoc] using e4 1 _ rfl, by simpa [Nat.add_assoc] using e4 2 _ rfl⟩

/-- the mark ahead of a place -/
def prevA (l : List At) (k : Nat) : Option Mk := if k = 0 then none else (l[k - 1]?).map (·.1)
theorem checkA_many {l : List At} (h : 300 < l.length) : checkA l = 2 := by unfold checkA; rw [if_pos h]
theorem checkA_few {l : List At} (h : ¬ 300 < l.length) : checkA l = checkAF (prevA l 0) (l.drop 0) := by unfold checkA; rw [if_neg h]; rfl
theorem checkAF_end {l : List At} {k : Nat} {p : Option Mk} (h : l.length ≤ k) : checkAF p (l.drop k) = 0 := by rw [List.drop_eq_nil_of_le h]; unfold checkAF; rfl
theorem drop_at {α : Type} {l : List α} {k : Nat} {a : α} (h : l[k]? = some a) : l.drop k = a :: l.drop (k + 1) := by
  obtain ⟨h1, h2⟩ := List.getElem?_eq_some_iff.1 h
  rw [List.drop_eq_getElem_cons h1, h2]
theorem prevA_next {l : List At} {k : Nat} {a : At} (h : l[k]? = some a) : prevA l (k + 1) = some a.1 := by
  unfold prevA; rw [if_neg (by omega), Nat.add_sub_cancel, h]; rfl
theorem checkAF_mark {l : List At} {k : Nat} {a : At} {p : Option Mk} (h : l[k]? = some a) (h1 : ¬ checkM a.1 = 0) : checkAF p (l.drop k) = checkM a.1 := by
  rw [drop_at h]; unfold checkAF; rw [if_pos h1]
theorem checkAF_sign {l : List At} {k : Nat} {a : At} {p : Option Mk} (h : l[k]? = some a) (h1 : checkM a.1 = 0) (h2 : signB a.2 = false) : checkAF p (l.drop k) = 3 := by
  rw [drop_at h]; unfold checkAF; rw [if_neg (by rw [h1]; simp), if_pos h2]
theorem checkAF_first {l : List At} {k : Nat} {a : At} (h : l[k]? = some a) (h1 : checkM a.1 = 0) (h2 : signB a.2 = true) (hk : k = 0) : checkAF (prevA l k) (l.drop k) = checkAF (prevA l (k + 1)) (l.drop (k + 1)) := by
  subst hk
  rw [prevA_next h, drop_at h]
  have hp : prevA l 0 = none := rfl
  rw [hp]
  conv => lhs; unfold checkAF
  rw [if_neg (by rw [h1]; simp), if_neg (by rw [h2]; simp)]
  simp
theorem prevA_pos {l : List At} {k : Nat} {b : At} (hb : l[k - 1]? = some b) (hk : 0 < k) : prevA l k = some b.1 := by
  unfold prevA; rw [if_neg (by omega), hb]; rfl
theorem checkAF_bad {l : List At} {k : Nat} {a b : At} (h : l[k]? = some a) (hb : l[k - 1]? = some b) (hk : 0 < k) (h1 : checkM a.1 = 0) (h2 : signB a.2 = true) (h3 : 0 ≤ ordM b.1 a.1) : checkAF (prevA l k) (l.drop k) = 4 := by
  rw [prevA_pos hb hk, drop_at h]
  unfold checkAF
  rw [if_neg (by rw [h1]; simp), if_neg (by rw [h2]; simp), if_pos (by simpa using h3)]
theorem checkAF_next {l : List At} {k : Nat} {a b : At} (h : l[k]? = some a) (hb : l[k - 1]? = some b) (hk : 0 < k) (h1 : checkM a.1 = 0) (h2 : signB a.2 = true) (h3 : ¬ 0 ≤ ordM b.1 a.1) : checkAF (prevA l k) (l.drop k) = checkAF (prevA l (k + 1)) (l.drop (k + 1)) := by
  rw [prevA_next h, prevA_pos hb hk, drop_at h]
  conv => lhs; unfold checkAF
  rw [if_neg (by rw [h1]; simp), if_neg (by rw [h2]; simp), if_neg (by simpa using h3)]
end Go.Proofs.Ytghfmgndddjofaa
