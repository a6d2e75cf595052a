/- The same runs; does an atom go on a run. -/
import Derived.Test.YthkhkbjkbpgaoaaB1
import Derived.Test.YthkhkbjkbpgaoaaR1
set_option linter.unusedVariables false
set_option linter.unusedSimpArgs false
namespace Go.Proofs.Ythkhkbjkbpgaoaa
open Go Go.RowKit Go.BigFrame Cp

theorem run_at {F : Nat → Prop} {w : World} {a : Option Addr} {n cap : Nat} {q : List Rn} (h : RSl RRn 3 F w (.slice a n cap) q) {i : Nat} (hi : i < n) :
    ∃ b o p c s ap cp, a = some ⟨b, o, none⟩ ∧ b < w.heap.size ∧ q[i]? = some ((p, c), (s : ByteArray).data.toList) ∧ s.size ≤ 140737488351232 ∧ I64 c ∧ RSl RStp 2 F w (.slice ap p.length cp) p ∧
      w.cell? ⟨b, o + i * 3, none⟩ = some (.slice ap p.length cp) ∧ w.cell? ⟨b, o + i * 3 + 1, none⟩ = some (.int .i64 c) ∧ w.cell? ⟨b, o + i * 3 + 2, none⟩ = some (.string s) := by
  obtain ⟨b, o, x, cs, e1, e2, e3, _, e4, v, u, rfl, h1, h2, h3⟩ := h.at_ hi
  obtain ⟨ap, np, cp, rfl⟩ := h1.slice
  obtain ⟨rfl, _, _⟩ := h1.len
  obtain ⟨⟨p, c⟩, t⟩ := x
  obtain ⟨s, rfl, rfl, hs⟩ := tx_bytes h3
  exact ⟨b, o, p, c, s, ap, cp, e1, e2, e3, hs, h2, h1, by simpa using e4 0 _ rfl, by simpa [Nat.add_assoc] using e4 1 _ rfl, by simpa [Nat.add_assoc] using e4 2 _ rfl⟩
theorem rtx_s {s : ByteArray} (h : s.size ≤ 140737488351232) : RTx (.string s) s.data.toList := ⟨by congr, by simpa using h⟩
theorem bytes_eq {s t : ByteArray} (h : s.data.toList = t.data.toList) : s = t := by
  cases s; cases t
  congr
  exact Array.ext' h
set_option maxRecDepth 100000 in
set_option maxHeartbeats 4000000 in
theorem sameRun_any {F G : Nat → Prop} {w : World} {cs ds : List Value} {r : Rn} (h : RRn F w cs r) (k : RRn G w ds r) :
    Calls Try.prog 50 #[.agg cs.toArray, .agg ds.toArray] w fun e w' => e = .returned (.bool true) ∧ Ext w w' := by
  obtain ⟨v, x, rfl, hl, hi, hx⟩ := h
  obtain ⟨u, y, rfl, hm, hj, hy⟩ := k
  obtain ⟨⟨l, c⟩, t⟩ := r
  simp only at hl hi hx hm hj hy ⊢
  obtain ⟨s, rfl, rfl, hs⟩ := tx_bytes hx
  obtain ⟨s2, rfl, e2, hs2⟩ := tx_bytes hy
  obtain rfl := bytes_eq e2
  have HS := Lib.hid (fun (W : World) (hx : Ext w W) => same_same (rmk_of' (hl.ext gStp hx) hi) (rmk_of' (hm.ext gStp hx) hj))
  obtain ⟨a1, n1, c1, rfl⟩ := hl.slice
  obtain ⟨a2, n2, c2, rfl⟩ := hm.slice
  clear hl hi hx hm hj hy e2
  go_enter Try.func50, Try.ntmps50
  go_wp2_with (go_at_call 29; go_must ((with_reducible refine (HS.out _ (by repeat (first | (with_reducible exact ext_refl _) | (with_reducible assumption) | (with_reducible refine ext_drew ?_) | (with_reducible refine ext_drewN ?_ _) | (with_reducible refine ext_alloc ?_ _) | (with_reducible refine ext_set ?_ (by first | omega | (simp <;> omega)) _) | (with_reducible refine ext_trans ?_ (by with_reducible assumption))))).mono ?_); rintro e w1 ⟨rfl, hx1⟩))
  go_ret
  exact ⟨rfl, (by repeat (first | (with_reducible exact ext_refl _) | (with_reducible assumption) | (with_reducible refine ext_drew ?_) | (with_reducible refine ext_drewN ?_ _) | (with_reducible refine ext_alloc ?_ _) | (with_reducible refine ext_set ?_ (by first | omega | (simp <;> omega)) _) | (with_reducible refine ext_trans ?_ (by with_reducible assumption))))⟩
set_option maxRecDepth 100000 in
set_option maxHeartbeats 4000000 in
theorem sameRuns_any {F G : Nat → Prop} {w : World} {v u : Value} {l : List Rn} (h : RSl RRn 3 F w v l) (k : RSl RRn 3 G w u l) :
    Calls Try.prog 48 #[v, u] w fun e w' => e = .returned (.bool true) ∧ Ext w w' := by
  have HL := Lib.hid (fun (W : World) (hx : Ext w W) => h.ext gRn hx)
  have HM := Lib.hid (fun (W : World) (hx : Ext w W) => k.ext gRn hx)
  obtain ⟨a, n, c, rfl⟩ := h.slice
  obtain ⟨a2, n2, c2, rfl⟩ := k.slice
  obtain ⟨rfl, hn1, hn2⟩ := h.len
  obtain ⟨rfl, _, _⟩ := k.len
  unfold maxLen at hn2
  have q1 : l.length ≤ 9223372036854775807 := by omega
  clear h k hn1 hn2
  go_enter Try.func48, Try.ntmps48
  go_wp2
  go_loopw [5] (fun i wr => ∃ q : Nat, q ≤ l.length ∧ i = .int .i64 q ∧ Ext w wr) (fun i _ => l.length - (intOf i).toNat)
  case atStart => exact ⟨0, Nat.zero_le _, rfl, ext_refl _⟩
  case round =>
    obtain ⟨q, hq, rfl, hx⟩ := hrel
    have HX := Lib.hid hx
    clear hx
    by_cases hlt : q < l.length
    · obtain ⟨b, o, p, d, s, ap, cp, rfl, hb, e1, hs, i1, hp1, y0, y1, y2⟩ := run_at (HL.out wr HX.out) hlt
      obtain ⟨b2, o2, p2, d2, s2, ap2, cp2, rfl, hb2, e2, hs2, i2, hp2, z0, z1, z2⟩ := run_at (HM.out wr HX.out) hlt
      obtain ⟨⟨rfl, rfl⟩, rfl⟩ : (p = p2 ∧ d = d2) ∧ s = s2 := by
        rw [e1] at e2
        injection e2 with e2
        injection e2 with e3 e4
        injection e3 with e5 e6
        exact ⟨⟨e5, e6⟩, bytes_eq e4⟩
      have HSM := Lib.hid (fun (W : World) (hx : Ext wr W) => sameRun_any (rrn_of (hp1.ext gStp hx) i1 (rtx_s hs)) (rrn_of (hp2.ext gStp hx) i2 (rtx_s hs)))
      clear e1 e2 hp1 hp2 i1 i2
      go_wp2_with fail
      refine wp_name (fun W2 eW2 => ?_)
      have e0 : W2.cell? ⟨b, o + q * 3, none⟩ = some (.slice ap p.length cp) := by rw [eW2]; go_simp
      have e1 : W2.cell? ⟨b, o + q * 3 + 1, none⟩ = some (.int .i64 d) := by rw [eW2]; go_simp
      have e2 : W2.cell? ⟨b, o + q * 3 + 2, none⟩ = some (.string s) := by rw [eW2]; go_simp
      have e3 : W2.cell? ⟨b2, o2 + q * 3, none⟩ = some (.slice ap2 p.length cp2) := by rw [eW2]; go_simp
      have e4 : W2.cell? ⟨b2, o2 + q * 3 + 1, none⟩ = some (.int .i64 d) := by rw [eW2]; go_simp
      have e5 : W2.cell? ⟨b2, o2 + q * 3 + 2, none⟩ = some (.string s) := by rw [eW2]; go_simp
      have zW2_0 : b < W2.heap.size := by rw [eW2]; first | assumption | omega | (simp <;> omega)
      have zW2_1 : b2 < W2.heap.size := by rw [eW2]; first | assumption | omega | (simp <;> omega)
      have hw2 : Ext wr W2 := by rw [eW2]; exact (by repeat (first | (with_reducible exact ext_refl _) | (with_reducible assumption) | (with_reducible refine ext_drew ?_) | (with_reducible refine ext_drewN ?_ _) | (with_reducible refine ext_alloc ?_ _) | (with_reducible refine ext_set ?_ (by first | omega | (simp <;> omega)) _) | (with_reducible refine ext_trans ?_ (by with_reducible assumption))))
      clear eW2
      refine wp_region_later fol (by kernel_rfl) (fun hlater => ?_)
      repeat (go_big_quiet_step ((first
          | (go_at_call 50; (with_reducible exact later_of (HSM.out _ (ext_trans hw2 (Later.ext _))))))))
      refine wpQuiet_nil ?_
      rintro w3 ⟨⟨w3x, hx3⟩, rfl⟩
      clear hlater
      go_wp2_with fail
      go_roundw
      case rel => exact ⟨q + 1, by omega, by go_num, ext_trans HX.out (ext_trans hw2 hx3)⟩
      case measure => simp [intOf]; omega
    · go_wp2
      go_ret
      exact ⟨rfl, HX.out⟩
end Go.Proofs.Ythkhkbjkbpgaoaa
