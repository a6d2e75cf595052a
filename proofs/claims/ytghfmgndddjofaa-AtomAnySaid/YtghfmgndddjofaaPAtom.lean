/- Plain facts on atoms and runs. No program in sight. -/
import Derived.Test.YtghfmgndddjofaaPMark
import Derived.Test.YtghfmgndddjofaaPDiff
set_option linter.unusedVariables false
set_option linter.unusedSimpArgs false
namespace Cp
abbrev At := Mk × UInt8
abbrev Rn := Mk × Tx

def checkAF (prev : Option Mk) : List At → Int
  | [] => 0
  | a :: r =>
    if checkM a.1 ≠ 0 then checkM a.1
    else if signB a.2 = false then 3
    else if (match prev with | some p => decide (0 ≤ ordM p a.1) | none => false) then 4
    else checkAF (some a.1) r
def checkA (l : List At) : Int := if 300 < l.length then 2 else checkAF none l

/-- atoms in order, each one right -/
def SortedA : List At → Prop
  | [] => True
  | [_] => True
  | a :: b :: r => ordM a.1 b.1 = -1 ∧ SortedA (b :: r)

theorem checkAF_ok : ∀ {l : List At} {prev : Option Mk}, checkAF prev l = 0 ↔
    (∀ a ∈ l, checkM a.1 = 0 ∧ signB a.2 = true) ∧ SortedA l ∧ (∀ p a, prev = some p → l.head? = some a → ordM p a.1 = -1)
  | [], prev => by simp [checkAF, SortedA]
  | a :: r, prev => by
    unfold checkAF
    by_cases h1 : checkM a.1 ≠ 0
    · rw [if_pos h1]
      constructor
      · intro h; exact absurd h h1
      · intro h; exact absurd (h.1 a (by simp)).1 h1
    rw [if_neg h1]
    by_cases h2 : signB a.2 = false
    · rw [if_pos h2]
      constructor
      · intro h; omega
      · intro h; have := (h.1 a (by simp)).2; rw [h2] at this; cases this
    rw [if_neg h2]
    have hh1 : checkM a.1 = 0 := by omega
    have hh2 : signB a.2 = true := by simpa using h2
    by_cases h3 : (match prev with | some p => decide (0 ≤ ordM p a.1) | none => false) = true
    · rw [if_pos h3]
      constructor
      · intro h; omega
      · intro h
        cases prev with
        | none => simp at h3
        | some p =>
          have := h.2.2 p a rfl rfl
          simp at h3; omega
    · rw [if_neg h3, checkAF_ok (l := r) (prev := some a.1)]
      constructor
      · rintro ⟨g1, g2, g3⟩
        refine ⟨?_, ?_, ?_⟩
        · intro x hx
          rcases List.mem_cons.1 hx with rfl | hx
          · exact ⟨hh1, hh2⟩
          · exact g1 x hx
        · cases r with
          | nil => trivial
          | cons b r' => exact ⟨g3 a.1 b rfl rfl, g2⟩
        · intro p x hp hx
          subst hp
          have : a = x := by simpa using hx
          subst this
          simp at h3
          have := ordM_range p a.1
          omega
      · rintro ⟨g1, g2, g3⟩
        refine ⟨fun x hx => g1 x (by simp [hx]), ?_, ?_⟩
        · cases r with
          | nil => trivial
          | cons b r' => exact g2.2
        · intro p x hp hx
          cases r with
          | nil => simp at hx
          | cons b r' =>
            have e1 : a.1 = p := by simpa using hp
            have e2 : b = x := by simpa using hx
            subst e1; subst e2
            exact g2.1

def textA (l : List At) : Tx := l.map (·.2)
def hasM (l : List At) (m : Mk) : Bool := l.any fun a => decide (ordM a.1 m = 0)
def hasG (l : List Mk) (m : Mk) : Bool := l.any fun x => decide (ordM x m = 0)

def checkR (r : Rn) : Int :=
  if checkM r.1 ≠ 0 then checkM r.1
  else if r.2 = [] then 1
  else if 60 < r.2.length then 2
  else if signsB r.2 = false then 3
  else (nextM r.1 (r.2.length - 1)).2
def atomsR (r : Rn) : List At := (List.range r.2.length).map fun (i : Nat) => (afterM r.1 (i : Int), r.2.getD i 0)
/-- one atom more, behind the runs so far -/
def runStep (out : List Rn) (a : At) : List Rn :=
  match out.getLast? with
  | some r => if r.2.length < 60 ∧ ordM (afterM r.1 r.2.length) a.1 = 0 then out.dropLast ++ [(r.1, r.2 ++ [a.2])] else out ++ [(a.1, [a.2])]
  | none => [(a.1, [a.2])]
def runsA (l : List At) : List Rn := l.foldl runStep []

end Cp
