/- How many signs are put and taken; and how many must be: the walks. -/
import Derived.Test.YthkhkbjkbpgaoaaD4
import Derived.Test.YthkhkbjkbpgaoaaOwn
import Derived.IntWalk
set_option linter.unusedVariables false
set_option linter.unusedSimpArgs false
namespace Go.Proofs.Ythkhkbjkbpgaoaa
open Go Go.RowKit Go.BigFrame Cp

theorem many_snoc {l : List Edt} {k : Nat} {x : Edt} (h : l[k]? = some x) : manyE (l.take (k + 1)) = manyE (l.take k) + ((if 0 < x.many ∧ x.many ≤ 300 then x.many else 0) + (x.text.length : Int)) := by
  obtain ⟨h1, h2⟩ := List.getElem?_eq_some_iff.1 h
  rw [List.take_succ_eq_append_getElem h1, h2, manyE_app, manyE_one]
theorem many_le : ∀ (l : List Edt), (∀ e ∈ l, e.text.length ≤ 60) → 0 ≤ manyE l ∧ manyE l ≤ 360 * (l.length : Int)
  | [], _ => by simp [manyE]
  | e :: l, h => by
    have h1 := many_le l (fun x hx => h x (by simp [hx]))
    have h2 := h e (by simp)
    have h3 : manyE (e :: l) = ((if 0 < e.many ∧ e.many ≤ 300 then e.many else 0) + (e.text.length : Int)) + manyE l := by simp [manyE]
    rw [h3, List.length_cons]
    split <;> omega

set_option maxRecDepth 100000 in
set_option maxHeartbeats 4000000 in
theorem many_any {F : Nat → Prop} {w : World} {v : Value} {l : List Edt} (hl : RSl REd 4 F w v l) (h1 : ∀ e ∈ l, e.text.length ≤ 60) (h2 : l.length ≤ 1000000) :
    Calls Try.prog 20 #[v] w fun e w' => e = .returned (.int .i64 (manyE l)) ∧ w = w' := by
  obtain ⟨a, n, c, rfl⟩ := hl.slice
  obtain ⟨rfl, hn1, hn2⟩ := hl.len
  have HL := Lib.hid hl
  have H1 := Lib.hid h1
  clear hl h1
  go_enter Try.func20, Try.ntmps20
  go_wp2
  go_loop [3, 4] (fun n i => ∃ k : Nat, k ≤ l.length ∧ i = .int .i64 k ∧ n = .int .i64 (manyE (l.take k))) (fun _ i => l.length - (intOf i).toNat)
  case atStart => exact ⟨0, Nat.zero_le _, rfl, rfl⟩
  case round =>
    obtain ⟨k, hk, rfl, rfl⟩ := hrel
    by_cases hlt : k < l.length
    · obtain ⟨b, o, x, tv, rfl, hb, ex, hx4, i1, i2, i3, z0, z1, z2, z3⟩ := ed_at HL.out hlt
      have HS := Lib.hid (many_snoc ex)
      have hx60 : x.text.length ≤ 60 := H1.out x (List.mem_of_getElem? ex)
      obtain ⟨hx4, _⟩ := hx4
      obtain ⟨tb, htb⟩ : ∃ tb : ByteArray, tb = ⟨x.text.toArray⟩ := ⟨_, rfl⟩
      rw [← htb] at hx4
      subst hx4
      have hbs : tb.size = x.text.length := by rw [htb]; simp [ByteArray.size]
      have HBS := Lib.hid hbs
      have hbs' : tb.size ≤ 60 := by omega
      clear hbs htb
      have hm := many_le (l.take k) (fun e he => H1.out e (List.mem_of_mem_take he))
      rw [List.length_take, Nat.min_eq_left hk] at hm
      obtain ⟨m1, m2⟩ := hm
      clear ex
      generalize manyE (l.take k) = s at *
      by_cases g1 : 0 < x.many
      · by_cases g2 : x.many ≤ 300
        · have t1 : decide (0 < x.many) = true := decide_eq_true g1
          have t2 : decide (x.many ≤ 300) = true := decide_eq_true g2
          go_wp2
          go_round
          case rel => exact ⟨k + 1, by omega, by go_num, by rw [HS.out, if_pos ⟨g1, g2⟩, ← HBS.out, Int.add_assoc]⟩
          case measure => simp [intOf]; omega
        · have t1 : decide (0 < x.many) = true := decide_eq_true g1
          have t2 : decide (x.many ≤ 300) = false := decide_eq_false g2
          go_wp2
          go_round
          case rel => exact ⟨k + 1, by omega, by go_num, by rw [HS.out, if_neg (fun h => absurd h.2 (by omega)), ← HBS.out, Int.zero_add]⟩
          case measure => simp [intOf]; omega
      · have t1 : decide (0 < x.many) = false := decide_eq_false g1
        go_wp2
        go_round
        case rel => exact ⟨k + 1, by omega, by go_num, by rw [HS.out, if_neg (fun h => absurd h.1 (by omega)), ← HBS.out, Int.zero_add]⟩
        case measure => simp [intOf]; omega
    · have hk2 : l.take k = l := List.take_of_length_le (by omega)
      have HK := Lib.hid hk2
      clear hk2
      go_wp2
      go_ret
      exact ⟨by rw [HK.out]; rfl, rfl⟩
end Go.Proofs.Ythkhkbjkbpgaoaa
