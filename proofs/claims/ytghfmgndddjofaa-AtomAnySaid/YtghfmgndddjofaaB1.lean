/- The same atoms. -/
import Derived.Test.YtghfmgndddjofaaA0
set_option linter.unusedVariables false
set_option linter.unusedSimpArgs false
namespace Go.Proofs.Ytghfmgndddjofaa
open Go Go.RowKit Go.BigFrame Cp

theorem same_same {F G : Nat → Prop} {w : World} {cs ds : List Value} {a : Mk} (ha : RMk F w cs a) (hb : RMk G w ds a) : Calls Try.prog 98 #[.agg cs.toArray, .agg ds.toArray] w fun e w' => e = .returned (.bool true) ∧ Ext w w' := by
  have h1 := same_any ha hb
  rw [ordM_self] at h1
  exact h1
set_option maxRecDepth 100000 in
set_option maxHeartbeats 4000000 in
theorem sameAtoms_any {F G : Nat → Prop} {w : World} {v u : Value} {l : List At} (h : RSl RAt 3 F w v l) (k : RSl RAt 3 G w u l) :
    Calls Try.prog 47 #[v, u] w fun e w' => e = .returned (.bool true) ∧ Ext w w' := by
  have HL := Lib.hid (fun (W : World) (hx : Ext w W) => h.ext gAt hx)
  have HM := Lib.hid (fun (W : World) (hx : Ext w W) => k.ext gAt hx)
  obtain ⟨a, n, c, rfl⟩ := h.slice
  obtain ⟨a2, n2, c2, rfl⟩ := k.slice
  obtain ⟨rfl, hn1, hn2⟩ := h.len
  obtain ⟨rfl, _, _⟩ := k.len
  unfold maxLen at hn2
  have q1 : l.length ≤ 9223372036854775807 := by omega
  clear h k hn1 hn2
  go_enter Try.func47, Try.ntmps47
  go_wp2
  go_loopw [5] (fun i wr => ∃ q : Nat, q ≤ l.length ∧ i = .int .i64 q ∧ Ext w wr) (fun i _ => l.length - (intOf i).toNat)
  case atStart => exact ⟨0, Nat.zero_le _, rfl, ext_refl _⟩
  case round =>
    obtain ⟨q, hq, rfl, hx⟩ := hrel
    have HX := Lib.hid hx
    clear hx
    by_cases hlt : q < l.length
    · obtain ⟨b, o, p, d, s, ap, cp, rfl, hb, e1, i1, hp1, y0, y1, y2⟩ := atm_at (HL.out wr HX.out) hlt
      obtain ⟨b2, o2, p2, d2, s2, ap2, cp2, rfl, hb2, e2, i2, hp2, z0, z1, z2⟩ := atm_at (HM.out wr HX.out) hlt
      obtain ⟨⟨rfl, rfl⟩, rfl⟩ : (p = p2 ∧ d = d2) ∧ s = s2 := by
        rw [e1] at e2
        injection e2 with e2
        injection e2 with e3 e4
        injection e3 with e5 e6
        exact ⟨⟨e5, e6⟩, e4⟩
      have HSM := Lib.hid (fun (W : World) (hx : Ext wr W) => same_same (rmk_of' (hp1.ext gStp hx) i1) (rmk_of' (hp2.ext gStp hx) i2))
      have t1 : (((s.toNat : Nat) : Int) != ((s.toNat : Nat) : Int)) = false := by simp
      clear e1 e2 hp1 hp2 i1 i2
      go_wp2_with fail
      refine wp_name (fun W2 eW2 => ?_)
      have e0 : W2.cell? ⟨b, o + q * 3, none⟩ = some (.slice ap p.length cp) := by rw [eW2]; go_simp
      have e1 : W2.cell? ⟨b, o + q * 3 + 1, none⟩ = some (.int .i64 d) := by rw [eW2]; go_simp
      have e2 : W2.cell? ⟨b, o + q * 3 + 2, none⟩ = some (.int .u8 s.toNat) := by rw [eW2]; go_simp
      have e3 : W2.cell? ⟨b2, o2 + q * 3, none⟩ = some (.slice ap2 p.length cp2) := by rw [eW2]; go_simp
      have e4 : W2.cell? ⟨b2, o2 + q * 3 + 1, none⟩ = some (.int .i64 d) := by rw [eW2]; go_simp
      have e5 : W2.cell? ⟨b2, o2 + q * 3 + 2, none⟩ = some (.int .u8 s.toNat) := by rw [eW2]; go_simp
      have zW2_0 : b < W2.heap.size := by rw [eW2]; first | assumption | omega | (simp <;> omega)
      have zW2_1 : b2 < W2.heap.size := by rw [eW2]; first | assumption | omega | (simp <;> omega)
      have hw2 : Ext wr W2 := by rw [eW2]; exact (by repeat (first | (with_reducible exact ext_refl _) | (with_reducible assumption) | (with_reducible refine ext_drew ?_) | (with_reducible refine ext_drewN ?_ _) | (with_reducible refine ext_alloc ?_ _) | (with_reducible refine ext_set ?_ (by first | omega | (simp <;> omega)) _) | (with_reducible refine ext_trans ?_ (by with_reducible assumption))))
      clear eW2
      refine wp_region_later fol (by kernel_rfl) (fun hlater => ?_)
      repeat (go_big_quiet_step ((first
          | (go_at_call 98; (with_reducible exact later_of (HSM.out _ (ext_trans hw2 (Later.ext _))))))))
      refine wpQuiet_nil ?_
      rintro w3 ⟨⟨w3x, hx3⟩, rfl⟩
      clear hlater
      go_wp2_with fail
      go_roundw
      case rel => exact ⟨q + 1, by omega, by go_num, ext_trans HX.out (ext_trans hw2 hx3)⟩
      case measure => simp [intOf]; omega
    · go_wp2
      go_ret
      exact ⟨rfl, HX.out⟩
set_option maxRecDepth 100000 in
set_option maxHeartbeats 4000000 in
theorem atomsAre_ok {F G : Nat → Prop} {w : World} {v u : Value} {l : List At} (h : RSl RAt 3 F w v l) (k : RSl RAt 3 G w u l) :
    Calls Try.prog 46 #[v, .int .i64 0, .int .i64 0, u] w fun e w' => e = .returned (.bool true) ∧ Ext w w' := by
  have HS := Lib.hid (fun (W : World) (hx : Ext w W) => sameAtoms_any (h.ext gAt hx) (k.ext gAt hx))
  obtain ⟨a, n, c, rfl⟩ := h.slice
  obtain ⟨a2, n2, c2, rfl⟩ := k.slice
  clear h k
  go_enter Try.func46, Try.ntmps46
  go_wp2_with (go_at_call 47; go_must ((with_reducible refine (HS.out _ (by repeat (first | (with_reducible exact ext_refl _) | (with_reducible assumption) | (with_reducible refine ext_drew ?_) | (with_reducible refine ext_drewN ?_ _) | (with_reducible refine ext_alloc ?_ _) | (with_reducible refine ext_set ?_ (by first | omega | (simp <;> omega)) _) | (with_reducible refine ext_trans ?_ (by with_reducible assumption))))).mono ?_); rintro e w1 ⟨rfl, hx1⟩))
  go_ret
  exact ⟨rfl, (by repeat (first | (with_reducible exact ext_refl _) | (with_reducible assumption) | (with_reducible refine ext_drew ?_) | (with_reducible refine ext_drewN ?_ _) | (with_reducible refine ext_alloc ?_ _) | (with_reducible refine ext_set ?_ (by first | omega | (simp <;> omega)) _) | (with_reducible refine ext_trans ?_ (by with_reducible assumption))))⟩
set_option maxRecDepth 100000 in
set_option maxHeartbeats 4000000 in
theorem atomsAre_bad {F : Nat → Prop} {w : World} {v u : Value} {r : Int} (h : RSl RAt 3 F w v []) (hr : ¬ r = 0) (hu : ∃ a n c, u = .slice a n c) :
    Calls Try.prog 46 #[v, .int .i64 r, .int .i64 r, u] w fun e w' => e = .returned (.bool true) ∧ Ext w w' := by
  have HS := Lib.hid (fun (W : World) (hx : Ext w W) => sameAtoms_any (h.ext gAt hx) (RSl.nil_ (R := RAt) (sz := 3) (F := fun _ => True) (w := W) (a := none) (cap := 0) (Nat.zero_le _)))
  obtain ⟨a, n, c, rfl⟩ := h.slice
  obtain ⟨a2, n2, c2, rfl⟩ := hu
  have t1 : (r != 0) = true := by simpa using hr
  clear h hr
  go_enter Try.func46, Try.ntmps46
  go_wp2_with (go_at_call 47; go_must ((with_reducible refine (HS.out _ (by repeat (first | (with_reducible exact ext_refl _) | (with_reducible assumption) | (with_reducible refine ext_drew ?_) | (with_reducible refine ext_drewN ?_ _) | (with_reducible refine ext_alloc ?_ _) | (with_reducible refine ext_set ?_ (by first | omega | (simp <;> omega)) _) | (with_reducible refine ext_trans ?_ (by with_reducible assumption))))).mono ?_); rintro e w1 ⟨rfl, hx1⟩))
  go_ret
  exact ⟨rfl, (by repeat (first | (with_reducible exact ext_refl _) | (with_reducible assumption) | (with_reducible refine ext_drew ?_) | (with_reducible refine ext_drewN ?_ _) | (with_reducible refine ext_alloc ?_ _) | (with_reducible refine ext_set ?_ (by first | omega | (simp <;> omega)) _) | (with_reducible refine ext_trans ?_ (by with_reducible assumption))))⟩
end Go.Proofs.Ytghfmgndddjofaa
