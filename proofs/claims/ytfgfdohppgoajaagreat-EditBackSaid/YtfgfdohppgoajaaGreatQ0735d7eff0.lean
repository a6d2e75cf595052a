/- A plain edit, by the program and by the reference. -/
import Derived.Test.YtfgfdohppgoajaaGreatQ8ebb1f5718
import Derived.Deep.QuietTactic
import Derived.BigQuiet
import Derived.RegionTactic
import Derived.IntWalk
set_option linter.unusedVariables false
set_option linter.unusedSimpArgs false
namespace Go.Proofs.YtfgfdohppgoajaaGreat
open Go Go.RowKit Cp

/-- a text and an errno -/
def IsTxE (t : Tx) (er : Int) (w : World) (e : Ending) (w' : World) : Prop := ∃ v, e = .returned (.tuple #[v, .int .i64 er]) ∧ RTx v t ∧ Ext w w'
theorem isTx_of {t : Tx} {er : Int} {w w' : World} {v : Value} {u : Tx} (h : u = t) (hv : RTx v u) (hx : Ext w w') : IsTxE t er w (.returned (.tuple #[v, .int .i64 er])) w' := ⟨v, rfl, h ▸ hv, hx⟩
theorem rtx_nil : RTx (.string ⟨#[]⟩) [] := ⟨rfl, Nat.zero_le _⟩
theorem tx_back (s : ByteArray) : (⟨s.data.toList.toArray⟩ : ByteArray) = s := by cases s; simp
theorem rtx_of {b : ByteArray} (h : b.size ≤ 140737488351232) : RTx (.string b) b.data.toList := ⟨by rw [tx_back], by simpa using h⟩
theorem put_tx (s u : ByteArray) (n : Nat) : (s.extract 0 n ++ u ++ s.extract n s.size).data.toList = List.take n s.data.toList ++ u.data.toList ++ List.drop n s.data.toList := by
  simp [ByteArray.data_append, ByteArray.data_extract, List.extract_eq_take_drop]
  exact List.take_of_length_le (by simp)
theorem put_size (s u : ByteArray) (n : Nat) : (s.extract 0 n ++ u ++ s.extract n s.size).size ≤ s.size + s.size + u.size := by
  simp [ByteArray.size_append, ByteArray.size_extract]; omega
theorem cut_tx (s : ByteArray) (n m : Nat) : (s.extract 0 n ++ s.extract (n + m) s.size).data.toList = List.take n s.data.toList ++ List.drop (n + m) s.data.toList := by
  simp [ByteArray.data_append, ByteArray.data_extract, List.extract_eq_take_drop]
  exact List.take_of_length_le (by simp)
theorem cut_size (s : ByteArray) (n m : Nat) : (s.extract 0 n ++ s.extract (n + m) s.size).size ≤ s.size + s.size := by
  simp [ByteArray.size_append, ByteArray.size_extract]; omega
theorem plain_case {s : Tx} {e : Edt} {t : Tx} {er : Int} {P : Tx → Int → Prop} (h : plainE s e = (t, er)) (k : P t er) : P (plainE s e).1 (plainE s e).2 := by rw [h]; exact k

set_option maxRecDepth 100000 in
set_option maxHeartbeats 4000000 in
theorem plain_any {F : Nat → Prop} {w : World} {cs : List Value} {e : Edt} (s : ByteArray) (hs : s.size ≤ 140737488351232) (he : REd F w cs e) :
    Calls Tryz.prog 35 #[.string s, .agg cs.toArray] w (IsTxE (plainE s.data.toList e).1 (plainE s.data.toList e).2 w) := by
  obtain ⟨x, rfl, i1, i2, i3, hx⟩ := he
  obtain ⟨kd, pl, mn, t⟩ := e
  obtain ⟨rfl, ht⟩ := hx
  simp only at i1 i2 i3 ht ⊢
  obtain ⟨u, rfl⟩ : ∃ u : ByteArray, t = u.data.toList := ⟨⟨t.toArray⟩, by simp⟩
  rw [tx_back]
  have hu : u.size ≤ 140737488351232 := by simpa using ht
  have hsl : s.data.toList.length = s.size := by simp
  have hul : u.data.toList.length = u.size := by simp
  have HS := Lib.hid (show s.size ≤ maxLen by unfold maxLen; omega)
  have HU := Lib.hid (show u.size ≤ maxLen by unfold maxLen; omega)
  have HI1 := Lib.hid i1
  have HI2 := Lib.hid i2
  have HI3 := Lib.hid i3
  clear ht i1
  unfold I64 at i2 i3
  have HSL := Lib.hid hsl
  have HUL := Lib.hid hul
  clear hsl hul
  by_cases h1 : 300 < s.size
  · have g1 : textE s.data.toList = 2 := by unfold textE; rw [if_pos (by rw [HSL.out]; exact h1)]
    have t1 : (textE s.data.toList != 0) = true := by rw [g1]; rfl
    have G1 := Lib.hid g1
    clear g1
    have e1 : plainE s.data.toList ⟨kd, pl, mn, u.data.toList⟩ = ([], textE s.data.toList) := by unfold plainE; rw [if_pos (by rw [HSL.out]; exact h1)]; rw [G1.out]
    rw [e1]
    clear e1
    go_enter Tryz.func35, Tryz.ntmps35
    go_wp2_with (first | (go_at_call 77; ((with_reducible refine (text_any _ _ HS.out).mono ?_); rintro e w' ⟨rfl, rfl⟩)) | (go_at_call 43; ((with_reducible refine (inside_any _ _ _ _ HI2.out (by first | exact HI3.out | (unfold I64; omega)) (by omega)).mono ?_); rintro e w' ⟨rfl, rfl⟩)) | (go_at_call 47; ((with_reducible refine (signs_any _ _ HU.out).mono ?_); rintro e w' ⟨rfl, rfl⟩)))
    go_ret2
    exact isTx_of rfl rtx_nil extA
  cases g2 : signsB s.data.toList with
  | false =>
    have g1 : textE s.data.toList = 3 := by unfold textE; rw [if_neg (by rw [HSL.out]; exact h1)]; rw [if_pos g2]
    have t1 : (textE s.data.toList != 0) = true := by rw [g1]; rfl
    have G1 := Lib.hid g1
    clear g1
    have e1 : plainE s.data.toList ⟨kd, pl, mn, u.data.toList⟩ = ([], textE s.data.toList) := by unfold plainE; rw [if_neg (by rw [HSL.out]; exact h1)]; rw [if_pos g2]; rw [G1.out]
    rw [e1]
    clear e1
    go_enter Tryz.func35, Tryz.ntmps35
    go_wp2_with (first | (go_at_call 77; ((with_reducible refine (text_any _ _ HS.out).mono ?_); rintro e w' ⟨rfl, rfl⟩)) | (go_at_call 43; ((with_reducible refine (inside_any _ _ _ _ HI2.out (by first | exact HI3.out | (unfold I64; omega)) (by omega)).mono ?_); rintro e w' ⟨rfl, rfl⟩)) | (go_at_call 47; ((with_reducible refine (signs_any _ _ HU.out).mono ?_); rintro e w' ⟨rfl, rfl⟩)))
    go_ret2
    exact isTx_of rfl rtx_nil extA
  | true =>
    have g1 : textE s.data.toList = 0 := by unfold textE; rw [if_neg (by rw [HSL.out]; exact h1)]; rw [g2]; rfl
    have t1 : (textE s.data.toList != 0) = false := by rw [g1]; rfl
    clear g1
    by_cases h3 : kd = 1
    · have k1 : (kd == 1) = true := by simpa using h3
      have H3 := Lib.hid h3
      clear h3
      by_cases h4 : mn = 0
      · have k2 : (mn != 0) = false := by simpa using h4
        have H4 := Lib.hid h4
        clear h4
        cases g3 : insideB pl 0 s.size with
        | false =>
          have e1 : plainE s.data.toList ⟨kd, pl, mn, u.data.toList⟩ = ([], 3) := by unfold plainE; rw [if_neg (by rw [HSL.out]; exact h1)]; rw [if_neg (by rw [g2]; simp)]; rw [if_pos H3.out, if_neg (by simpa using H4.out)]; rw [if_pos (.inl (by rw [HSL.out]; exact g3))]
          rw [e1]
          clear e1
          go_enter Tryz.func35, Tryz.ntmps35
          go_wp2_with (first | (go_at_call 77; ((with_reducible refine (text_any _ _ HS.out).mono ?_); rintro e w' ⟨rfl, rfl⟩)) | (go_at_call 43; ((with_reducible refine (inside_any _ _ _ _ HI2.out (by first | exact HI3.out | (unfold I64; omega)) (by omega)).mono ?_); rintro e w' ⟨rfl, rfl⟩)) | (go_at_call 47; ((with_reducible refine (signs_any _ _ HU.out).mono ?_); rintro e w' ⟨rfl, rfl⟩)))
          go_ret2
          exact isTx_of rfl rtx_nil extA
        | true =>
          cases g4 : signsB u.data.toList with
          | false =>
            have e1 : plainE s.data.toList ⟨kd, pl, mn, u.data.toList⟩ = ([], 3) := by unfold plainE; rw [if_neg (by rw [HSL.out]; exact h1)]; rw [if_neg (by rw [g2]; simp)]; rw [if_pos H3.out, if_neg (by simpa using H4.out)]; rw [if_pos (.inr g4)]
            rw [e1]
            clear e1
            go_enter Tryz.func35, Tryz.ntmps35
            go_wp2_with (first | (go_at_call 77; ((with_reducible refine (text_any _ _ HS.out).mono ?_); rintro e w' ⟨rfl, rfl⟩)) | (go_at_call 43; ((with_reducible refine (inside_any _ _ _ _ HI2.out (by first | exact HI3.out | (unfold I64; omega)) (by omega)).mono ?_); rintro e w' ⟨rfl, rfl⟩)) | (go_at_call 47; ((with_reducible refine (signs_any _ _ HU.out).mono ?_); rintro e w' ⟨rfl, rfl⟩)))
            go_ret2
            exact isTx_of rfl rtx_nil extA
          | true =>
            by_cases h5 : 300 < s.size + u.size
            · have k5 : 300 < (s.size : Int) + (u.size : Int) := by omega
              have e1 : plainE s.data.toList ⟨kd, pl, mn, u.data.toList⟩ = ([], 2) := by unfold plainE; rw [if_neg (by rw [HSL.out]; exact h1)]; rw [if_neg (by rw [g2]; simp)]; rw [if_pos H3.out, if_neg (by simpa using H4.out)]; rw [if_neg (by rw [HSL.out, g4]; simp only [g3]; simp)]; rw [if_pos (by rw [HSL.out, HUL.out]; exact h5)]
              rw [e1]
              clear e1
              go_enter Tryz.func35, Tryz.ntmps35
              go_wp2_with (first | (go_at_call 77; ((with_reducible refine (text_any _ _ HS.out).mono ?_); rintro e w' ⟨rfl, rfl⟩)) | (go_at_call 43; ((with_reducible refine (inside_any _ _ _ _ HI2.out (by first | exact HI3.out | (unfold I64; omega)) (by omega)).mono ?_); rintro e w' ⟨rfl, rfl⟩)) | (go_at_call 47; ((with_reducible refine (signs_any _ _ HU.out).mono ?_); rintro e w' ⟨rfl, rfl⟩)))
              go_ret2
              exact isTx_of rfl rtx_nil extA
            · obtain ⟨q1, q2⟩ : 0 ≤ pl ∧ pl ≤ s.size := by unfold insideB at g3; simp at g3; omega
              have e1 : plainE s.data.toList ⟨kd, pl, mn, u.data.toList⟩ = (s.data.toList.take pl.toNat ++ u.data.toList ++ s.data.toList.drop pl.toNat, 0) := by unfold plainE; rw [if_neg (by rw [HSL.out]; exact h1)]; rw [if_neg (by rw [g2]; simp)]; rw [if_pos H3.out, if_neg (by simpa using H4.out)]; rw [if_neg (by rw [HSL.out, g4]; simp only [g3]; simp)]; rw [if_neg (by rw [HSL.out, HUL.out]; exact h5)]
              rw [e1]
              clear e1
              go_enter Tryz.func35, Tryz.ntmps35
              go_wp2_with (first | (go_at_call 77; ((with_reducible refine (text_any _ _ HS.out).mono ?_); rintro e w' ⟨rfl, rfl⟩)) | (go_at_call 43; ((with_reducible refine (inside_any _ _ _ _ HI2.out (by first | exact HI3.out | (unfold I64; omega)) (by omega)).mono ?_); rintro e w' ⟨rfl, rfl⟩)) | (go_at_call 47; ((with_reducible refine (signs_any _ _ HU.out).mono ?_); rintro e w' ⟨rfl, rfl⟩)))
              go_quiet (fail)
              go_wp2
              go_ret2
              exact isTx_of (v := .string (s.extract 0 pl.toNat ++ u ++ s.extract pl.toNat s.size)) (put_tx s u pl.toNat) (rtx_of (Nat.le_trans (put_size s u _) (by omega))) extA
      · have k2 : (mn != 0) = true := by simpa using h4
        have e1 : plainE s.data.toList ⟨kd, pl, mn, u.data.toList⟩ = ([], 1) := by unfold plainE; rw [if_neg (by rw [HSL.out]; exact h1)]; rw [if_neg (by rw [g2]; simp)]; rw [if_pos H3.out, if_pos h4]
        rw [e1]
        clear e1
        go_enter Tryz.func35, Tryz.ntmps35
        go_wp2_with (first | (go_at_call 77; ((with_reducible refine (text_any _ _ HS.out).mono ?_); rintro e w' ⟨rfl, rfl⟩)) | (go_at_call 43; ((with_reducible refine (inside_any _ _ _ _ HI2.out (by first | exact HI3.out | (unfold I64; omega)) (by omega)).mono ?_); rintro e w' ⟨rfl, rfl⟩)) | (go_at_call 47; ((with_reducible refine (signs_any _ _ HU.out).mono ?_); rintro e w' ⟨rfl, rfl⟩)))
        go_ret2
        exact isTx_of rfl rtx_nil extA
    · have k1 : (kd == 1) = false := by simpa using h3
      have H3 := Lib.hid h3
      clear h3
      by_cases h6 : kd = 2
      · have k2 : (kd == 2) = true := by simpa using h6
        have H6 := Lib.hid h6
        clear h6
        by_cases h7 : u.size = 0
        · obtain rfl : u = ⟨#[]⟩ := by have h8 : u.data = #[] := Array.eq_empty_of_size_eq_zero h7; cases u; exact congrArg ByteArray.mk h8
          clear h7
          cases g3 : insideB pl mn s.size with
          | false =>
            have e1 : plainE s.data.toList ⟨kd, pl, mn, (⟨#[]⟩ : ByteArray).data.toList⟩ = ([], 3) := by unfold plainE; rw [if_neg (by rw [HSL.out]; exact h1)]; rw [if_neg (by rw [g2]; simp)]; rw [if_neg H3.out, if_pos H6.out]; rw [if_neg (by simp), if_pos (by rw [HSL.out]; exact g3)]
            rw [e1]
            clear e1
            go_enter Tryz.func35, Tryz.ntmps35
            go_wp2_with (first | (go_at_call 77; ((with_reducible refine (text_any _ _ HS.out).mono ?_); rintro e w' ⟨rfl, rfl⟩)) | (go_at_call 43; ((with_reducible refine (inside_any _ _ _ _ HI2.out (by first | exact HI3.out | (unfold I64; omega)) (by omega)).mono ?_); rintro e w' ⟨rfl, rfl⟩)) | (go_at_call 47; ((with_reducible refine (signs_any _ _ HU.out).mono ?_); rintro e w' ⟨rfl, rfl⟩)))
            go_ret2
            exact isTx_of rfl rtx_nil extA
          | true =>
            obtain ⟨q1, q2, q3⟩ : 0 ≤ pl ∧ 0 ≤ mn ∧ pl + mn ≤ s.size := by unfold insideB at g3; simp at g3; omega
            have e1 : plainE s.data.toList ⟨kd, pl, mn, (⟨#[]⟩ : ByteArray).data.toList⟩ = (s.data.toList.take pl.toNat ++ s.data.toList.drop (pl.toNat + mn.toNat), 0) := by unfold plainE; rw [if_neg (by rw [HSL.out]; exact h1)]; rw [if_neg (by rw [g2]; simp)]; rw [if_neg H3.out, if_pos H6.out]; rw [if_neg (by simp), if_neg (by rw [HSL.out]; simp only [g3]; simp)]
            rw [e1]
            clear e1
            have q4 : (pl + mn).toNat = pl.toNat + mn.toNat := by omega
            have Q4 := Lib.hid q4
            clear q4
            have q5 : 0 ≤ pl + mn := by omega
            go_enter Tryz.func35, Tryz.ntmps35
            go_wp2_with (first | (go_at_call 77; ((with_reducible refine (text_any _ _ HS.out).mono ?_); rintro e w' ⟨rfl, rfl⟩)) | (go_at_call 43; ((with_reducible refine (inside_any _ _ _ _ HI2.out (by first | exact HI3.out | (unfold I64; omega)) (by omega)).mono ?_); rintro e w' ⟨rfl, rfl⟩)) | (go_at_call 47; ((with_reducible refine (signs_any _ _ HU.out).mono ?_); rintro e w' ⟨rfl, rfl⟩)))
            have q6 : IntKind.i64.wrap (pl + mn) = pl + mn := IntWalk.i64_in _ (by omega)
            go_quiet (fail)
            clear q6
            go_wp2
            go_ret2
            exact isTx_of (v := .string (s.extract 0 pl.toNat ++ s.extract (pl + mn).toNat s.size)) (by rw [Q4.out]; exact cut_tx s _ _) (rtx_of (by rw [Q4.out]; exact Nat.le_trans (cut_size s _ _) (by omega))) extA
        · have k3 : u.toList.isEmpty = false := by rw [ByteArray.toList_eq]; cases hl : u.data.toList with | nil => exact absurd (by rw [← HUL.out, hl]; rfl) h7 | cons _ _ => rfl
          have e1 : plainE s.data.toList ⟨kd, pl, mn, u.data.toList⟩ = ([], 1) := by unfold plainE; rw [if_neg (by rw [HSL.out]; exact h1)]; rw [if_neg (by rw [g2]; simp)]; rw [if_neg H3.out, if_pos H6.out]; rw [if_pos (by intro e; apply h7; have e2 : u.data.toList = [] := e; rw [← HUL.out, e2]; rfl)]
          rw [e1]
          clear e1
          go_enter Tryz.func35, Tryz.ntmps35
          go_wp2_with (first | (go_at_call 77; ((with_reducible refine (text_any _ _ HS.out).mono ?_); rintro e w' ⟨rfl, rfl⟩)) | (go_at_call 43; ((with_reducible refine (inside_any _ _ _ _ HI2.out (by first | exact HI3.out | (unfold I64; omega)) (by omega)).mono ?_); rintro e w' ⟨rfl, rfl⟩)) | (go_at_call 47; ((with_reducible refine (signs_any _ _ HU.out).mono ?_); rintro e w' ⟨rfl, rfl⟩)))
          go_ret2
          exact isTx_of rfl rtx_nil extA
      · have k2 : (kd == 2) = false := by simpa using h6
        have e1 : plainE s.data.toList ⟨kd, pl, mn, u.data.toList⟩ = ([], 7) := by unfold plainE; rw [if_neg (by rw [HSL.out]; exact h1)]; rw [if_neg (by rw [g2]; simp)]; rw [if_neg H3.out, if_neg h6]
        rw [e1]
        clear e1
        go_enter Tryz.func35, Tryz.ntmps35
        go_wp2_with (first | (go_at_call 77; ((with_reducible refine (text_any _ _ HS.out).mono ?_); rintro e w' ⟨rfl, rfl⟩)) | (go_at_call 43; ((with_reducible refine (inside_any _ _ _ _ HI2.out (by first | exact HI3.out | (unfold I64; omega)) (by omega)).mono ?_); rintro e w' ⟨rfl, rfl⟩)) | (go_at_call 47; ((with_reducible refine (signs_any _ _ HU.out).mono ?_); rintro e w' ⟨rfl, rfl⟩)))
        go_ret2
        exact isTx_of rfl rtx_nil extA
end Go.Proofs.YtfgfdohppgoajaaGreat
