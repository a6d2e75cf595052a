/- Edits played, by the program and by the reference. -/
import Derived.Test.YthkhkbjkbpgaoaaD3
set_option linter.unusedVariables false
set_option linter.unusedSimpArgs false
namespace Go.Proofs.Ythkhkbjkbpgaoaa
open Go Go.RowKit Cp

/-- an edit of a list, where it lies -/
theorem ed_at {F : Nat → Prop} {w : World} {a : Option Addr} {n cap : Nat} {q : List Edt} (h : RSl REd 4 F w (.slice a n cap) q) {i : Nat} (hi : i < n) :
    ∃ b o x tv, a = some ⟨b, o, none⟩ ∧ b < w.heap.size ∧ q[i]? = some x ∧ RTx tv x.text ∧ I64 x.kind ∧ I64 x.at_ ∧ I64 x.many ∧
      w.cell? ⟨b, o + i * 4, none⟩ = some (.int .i64 x.kind) ∧ w.cell? ⟨b, o + i * 4 + 1, none⟩ = some (.int .i64 x.at_) ∧ w.cell? ⟨b, o + i * 4 + 2, none⟩ = some (.int .i64 x.many) ∧ w.cell? ⟨b, o + i * 4 + 3, none⟩ = some tv := by
  obtain ⟨b, o, x, cs, e1, e2, e3, _, e4, v, rfl, h1, h2, h3, h4⟩ := h.at_ hi
  exact ⟨b, o, x, v, e1, e2, e3, h4, h1, h2, h3, by simpa using e4 0 _ rfl, by simpa [Nat.add_assoc] using e4 1 _ rfl, by simpa [Nat.add_assoc] using e4 2 _ rfl, by simpa [Nat.add_assoc] using e4 3 _ rfl⟩

set_option maxRecDepth 100000 in
set_option maxHeartbeats 4000000 in
theorem play_any {F : Nat → Prop} {w : World} {v0 v : Value} {s : Tx} {l : List Edt} (hs : RTx v0 s) (hl : RSl REd 4 F w v l) :
    Calls Try.prog 15 #[v0, v] w (IsTxE (playE s l).1 (playE s l).2 w) := by
  obtain ⟨a, n, c, rfl⟩ := hl.slice
  obtain ⟨rfl, hn1, hn2⟩ := hl.len
  unfold maxLen at hn2
  obtain ⟨rfl, hs⟩ := hs
  have HL := Lib.hid hl
  have HS := Lib.hid hs
  clear hl hs
  go_enter Try.func15, Try.ntmps15
  go_wp2_with fail
  go_loopw [0, 12] (fun sv i wr => ∃ (k : Nat) (t : Tx), k ≤ l.length ∧ i = .int .i64 k ∧ sv = .string ⟨t.toArray⟩ ∧ Hid (t.length ≤ 140737488351232 ∧ playE s l = playE t (l.drop k)) ∧ Ext w wr) (fun _ i _ => l.length - (intOf i).toNat)
  case atStart => exact ⟨0, s, Nat.zero_le _, rfl, rfl, ⟨HS.out, rfl⟩, ext_refl _⟩
  case round =>
    obtain ⟨k, t, hk, rfl, rfl, ht, hx⟩ := hrel
    obtain ⟨u, rfl⟩ : ∃ u : ByteArray, t = u.data.toList := ⟨⟨t.toArray⟩, by simp⟩
    rw [tx_back]
    have hsz := hx.size
    have HX := Lib.hid hx
    clear hx
    by_cases hlt : k < l.length
    · obtain ⟨b, o, x, tv, rfl, hb, ex, hx4, i1, i2, i3, z0, z1, z2, z3⟩ := ed_at (HL.out.ext gEd HX.out) hlt
      obtain ⟨rfl, hx4⟩ := hx4
      have HC := Lib.hid (fun (W : World) => plain_any (F := fun _ => True) (w := W) (cs := [.int .i64 x.kind, .int .i64 x.at_, .int .i64 x.many, .string ⟨x.text.toArray⟩]) (e := x) u (by simpa using ht.out.1) ⟨_, rfl, i1, i2, i3, rfl, hx4⟩)
      have HE := Lib.hid ex
      have HD := Lib.hid (List.drop_eq_getElem_cons hlt)
      have HG : Hid (l[k] = x) := by
        rw [List.getElem?_eq_getElem hlt] at ex
        exact Lib.hid (by simpa using ex)
      clear ex i1 i2 i3 hx4
      by_cases h0 : (plainE u.data.toList x).2 = 0
      · have t0 : ((plainE u.data.toList x).2 != 0) = false := by rw [h0]; rfl
        have H0 := Lib.hid h0
        clear h0
        go_wp2_with (go_at_call 51; ((with_reducible refine (HC.out _).mono ?_); rintro e w1 ⟨v1, rfl, ⟨rfl, hv1⟩, hx1⟩; have HV1 := Lib.hid hv1; have HX1 := Lib.hid hx1; have hz1 := hx1.size; (try simp at hz1); clear hv1 hx1))
        go_roundw
        all_goals first
          | exact ⟨k + 1, _, by omega, by go_num, rfl, ⟨HV1.out, by rw [ht.out.2, HD.out, playE, HG.out, if_neg (by rw [H0.out]; simp)]⟩, ext_trans HX.out (ext_trans (by repeat (first | (with_reducible exact ext_refl _) | (with_reducible refine ext_drew ?_) | (with_reducible refine ext_drewN ?_ _) | (with_reducible refine ext_alloc ?_ _) | (with_reducible refine ext_set ?_ (by first | omega | (simp <;> omega)) _))) HX1.out)⟩
          | (simp [intOf]; omega)
      · have t0 : ((plainE u.data.toList x).2 != 0) = true := by simpa using h0
        have H0 := Lib.hid h0
        clear h0
        go_wp2_with (go_at_call 51; ((with_reducible refine (HC.out _).mono ?_); rintro e w1 ⟨v1, rfl, ⟨rfl, hv1⟩, hx1⟩; have HX1 := Lib.hid hx1; clear hv1 hx1))
        go_ret2
        have hp : playE s l = ([], (plainE u.data.toList x).2) := by rw [ht.out.2, HD.out, playE, HG.out, if_pos H0.out]
        rw [hp]
        exact isTx_of rfl rtx_nil (ext_trans HX.out (ext_trans (by repeat (first | (with_reducible exact ext_refl _) | (with_reducible refine ext_drew ?_) | (with_reducible refine ext_drewN ?_ _) | (with_reducible refine ext_alloc ?_ _) | (with_reducible refine ext_set ?_ (by first | omega | (simp <;> omega)) _))) HX1.out))
    · have hke : l.drop k = [] := List.drop_eq_nil_of_le (by omega)
      have HK := Lib.hid hke
      clear hke
      go_wp2_with fail
      go_ret2
      have hp : playE s l = (u.data.toList, 0) := by rw [ht.out.2, HK.out, playE]
      rw [hp]
      exact isTx_of rfl (rtx_of (by simpa using ht.out.1)) HX.out
set_option maxRecDepth 100000 in
set_option maxHeartbeats 4000000 in
theorem playOf_any {F : Nat → Prop} {w : World} {v0 v : Value} {s : Tx} {l : List Edt} (hs : RTx v0 s) (hl : RSl REd 4 F w v l) :
    Calls Try.prog 16 #[v0, v] w (IsTxE (playE s l).1 (playE s l).2 w) := by
  obtain ⟨a, n, c, rfl⟩ := hl.slice
  obtain ⟨rfl, hn1, hn2⟩ := hl.len
  unfold maxLen at hn2
  obtain ⟨rfl, hs⟩ := hs
  have HL := Lib.hid hl
  have HS := Lib.hid hs
  clear hl hs
  go_enter Try.func16, Try.ntmps16
  go_wp2_with fail
  go_loopw [0, 6] (fun sv i wr => ∃ (k : Nat) (t : Tx), k ≤ l.length ∧ i = .int .i64 k ∧ sv = .string ⟨t.toArray⟩ ∧ Hid (t.length ≤ 140737488351232 ∧ playE s l = playE t (l.drop k)) ∧ Ext w wr) (fun _ i _ => l.length - (intOf i).toNat)
  case atStart => exact ⟨0, s, Nat.zero_le _, rfl, rfl, ⟨HS.out, rfl⟩, ext_refl _⟩
  case round =>
    obtain ⟨k, t, hk, rfl, rfl, ht, hx⟩ := hrel
    obtain ⟨u, rfl⟩ : ∃ u : ByteArray, t = u.data.toList := ⟨⟨t.toArray⟩, by simp⟩
    rw [tx_back]
    have hsz := hx.size
    have HX := Lib.hid hx
    clear hx
    by_cases hlt : k < l.length
    · obtain ⟨b, o, x, tv, rfl, hb, ex, hx4, i1, i2, i3, z0, z1, z2, z3⟩ := ed_at (HL.out.ext gEd HX.out) hlt
      obtain ⟨rfl, hx4⟩ := hx4
      have HC := Lib.hid (fun (W : World) => plainOf_any (F := fun _ => True) (w := W) (cs := [.int .i64 x.kind, .int .i64 x.at_, .int .i64 x.many, .string ⟨x.text.toArray⟩]) (e := x) u (by simpa using ht.out.1) ⟨_, rfl, i1, i2, i3, rfl, hx4⟩)
      have HE := Lib.hid ex
      have HD := Lib.hid (List.drop_eq_getElem_cons hlt)
      have HG : Hid (l[k] = x) := by
        rw [List.getElem?_eq_getElem hlt] at ex
        exact Lib.hid (by simpa using ex)
      clear ex i1 i2 i3 hx4
      by_cases h0 : (plainE u.data.toList x).2 = 0
      · have t0 : ((plainE u.data.toList x).2 != 0) = false := by rw [h0]; rfl
        have H0 := Lib.hid h0
        clear h0
        go_wp2_with (go_at_call 52; ((with_reducible refine (HC.out _).mono ?_); rintro e w1 ⟨v1, rfl, ⟨rfl, hv1⟩, hx1⟩; have HV1 := Lib.hid hv1; have HX1 := Lib.hid hx1; have hz1 := hx1.size; (try simp at hz1); clear hv1 hx1))
        go_roundw
        all_goals first
          | exact ⟨k + 1, _, by omega, by go_num, rfl, ⟨HV1.out, by rw [ht.out.2, HD.out, playE, HG.out, if_neg (by rw [H0.out]; simp)]⟩, ext_trans HX.out (ext_trans (by repeat (first | (with_reducible exact ext_refl _) | (with_reducible refine ext_drew ?_) | (with_reducible refine ext_drewN ?_ _) | (with_reducible refine ext_alloc ?_ _) | (with_reducible refine ext_set ?_ (by first | omega | (simp <;> omega)) _))) HX1.out)⟩
          | (simp [intOf]; omega)
      · have t0 : ((plainE u.data.toList x).2 != 0) = true := by simpa using h0
        have H0 := Lib.hid h0
        clear h0
        go_wp2_with (go_at_call 52; ((with_reducible refine (HC.out _).mono ?_); rintro e w1 ⟨v1, rfl, ⟨rfl, hv1⟩, hx1⟩; have HX1 := Lib.hid hx1; clear hv1 hx1))
        go_ret2
        have hp : playE s l = ([], (plainE u.data.toList x).2) := by rw [ht.out.2, HD.out, playE, HG.out, if_pos H0.out]
        rw [hp]
        exact isTx_of rfl rtx_nil (ext_trans HX.out (ext_trans (by repeat (first | (with_reducible exact ext_refl _) | (with_reducible refine ext_drew ?_) | (with_reducible refine ext_drewN ?_ _) | (with_reducible refine ext_alloc ?_ _) | (with_reducible refine ext_set ?_ (by first | omega | (simp <;> omega)) _))) HX1.out))
    · have hke : l.drop k = [] := List.drop_eq_nil_of_le (by omega)
      have HK := Lib.hid hke
      clear hke
      go_wp2_with fail
      go_ret2
      have hp : playE s l = (u.data.toList, 0) := by rw [ht.out.2, HK.out, playE]
      rw [hp]
      exact isTx_of rfl (rtx_of (by simpa using ht.out.1)) HX.out
end Go.Proofs.Ythkhkbjkbpgaoaa
