/- Notes as they lie; notes of one's own. -/
import Derived.Test.YtiladkinndgeaaaQ109f4b8c99
import Derived.Test.YtiladkinndgeaaaQ8ca86c7443
import Derived.Test.YtiladkinndgeaaaQdac6b4fc49
import Derived.Test.YtiladkinndgeaaaQ53c916c439
set_option linter.unusedVariables false
set_option linter.unusedSimpArgs false
namespace Go.Proofs.Ytiladkinndgeaaa
open Go Go.RowKit Go.BigFrame Cp

theorem info_noG : (Try.prog.info? 25).map (fun i => (i.zero, i.size, i.bytes)) = some (some (.agg #[.int .i64 0, .int .i64 0, .slice none 0 0, .slice none 0 0]), 4, 64) := by kernel_rfl
theorem one_noG : ∀ F w cs (y : No), RNo F w cs y → ∀ u ∈ cs, u.oneCell' = true := by
  rintro F w cs y ⟨v, u, rfl, _, _, h1, h2⟩ x hx
  obtain ⟨a1, n1, c1, rfl⟩ := h1.slice
  obtain ⟨a2, n2, c2, rfl⟩ := h2.slice
  simp at hx
  rcases hx with rfl | rfl | rfl | rfl <;> rfl
theorem noG_len {a : Nat} (h : a ≤ 1000) : a + 1 ≤ maxLen := Nat.le_trans (by omega : a + 1 ≤ 1001) (by unfold maxLen; decide)
theorem noG_byt {a : Nat} (h : a ≤ 1000) : (a + 1) * 64 ≤ 140737488355328 := by omega
/-- a note of a list -/
theorem note_at {F : Nat → Prop} {w : World} {a : Option Addr} {n cap : Nat} {q : List No} (h : RSl RNo 4 F w (.slice a n cap) q) {i : Nat} (hi : i < n) :
    ∃ b o d a1 n1 c1 a2 n2 c2, a = some ⟨b, o, none⟩ ∧ b < w.heap.size ∧ q[i]? = some d ∧ RNo F w [.int .i64 d.site, .int .i64 d.number, .slice a1 n1 c1, .slice a2 n2 c2] d ∧
      w.cell? ⟨b, o + i * 4, none⟩ = some (.int .i64 d.site) ∧ w.cell? ⟨b, o + i * 4 + 1, none⟩ = some (.int .i64 d.number) ∧ w.cell? ⟨b, o + i * 4 + 2, none⟩ = some (.slice a1 n1 c1) ∧ w.cell? ⟨b, o + i * 4 + 3, none⟩ = some (.slice a2 n2 c2) := by
  obtain ⟨b, o, d, cs, e1, e2, e3, _, e4, hd⟩ := h.at_ hi
  have hd' := hd
  obtain ⟨v, u, rfl, h1, h2, h3, h4⟩ := hd
  obtain ⟨a1, n1, c1, rfl⟩ := h3.slice
  obtain ⟨a2, n2, c2, rfl⟩ := h4.slice
  exact ⟨b, o, d, a1, n1, c1, a2, n2, c2, e1, e2, e3, hd', by simpa using e4 0 _ rfl, by simpa [Nat.add_assoc] using e4 1 _ rfl, by simpa [Nat.add_assoc] using e4 2 _ rfl, by simpa [Nat.add_assoc] using e4 3 _ rfl⟩
theorem path_small {m : Mk} (h : checkM m = 0) : m.1.length ≤ 8000000000000 := Nat.le_trans (checkM_ok.1 h).1 (by omega)
theorem note_small {n : No} (h : checkN n = 0) : n.needs.length ≤ 1000 ∧ n.deeds.length ≤ 1000 ∧ ∀ d ∈ n.deeds, d.run.1.1.length ≤ 8000000000000 ∧ d.mark.1.length ≤ 8000000000000 := by
  obtain ⟨_, _, h3, _, _, _, h7, h8⟩ := checkN_okP h
  refine ⟨by omega, by omega, fun d hd => ?_⟩
  have hc := checkDL_ok.1 h8 d hd
  by_cases hk : d.kind = 1
  · obtain ⟨h1, h2, _⟩ := deed_put hc hk
    refine ⟨path_small (checkR_parts h1).1, ?_⟩
    rw [noneM_is h2]; simp
  · obtain ⟨_, h2, _, h6, _⟩ := deed_take hc hk
    refine ⟨?_, path_small h2⟩
    rw [noneM_is h6]; simp
theorem rangeAt4G {w : World} {b : Nat} {x0 x1 x2 x3 : Value} (h0 : w.cell? ⟨b, 0, none⟩ = some x0) (h1 : w.cell? ⟨b, 1, none⟩ = some x1) (h2 : w.cell? ⟨b, 2, none⟩ = some x2) (h3 : w.cell? ⟨b, 3, none⟩ = some x3) : w.rangeAt b 0 [x0, x1, x2, x3] := by
  intro j v hv
  match j, hv with
  | 0, hv => injection hv with hv; subst hv; exact h0
  | 1, hv => injection hv with hv; subst hv; exact h1
  | 2, hv => injection hv with hv; subst hv; exact h2
  | 3, hv => injection hv with hv; subst hv; exact h3
  | j + 4, hv => simp at hv
/-- notes of one's own -/
def IsOwnN (l : List No) (w : World) (e : Ending) (w' : World) : Prop := ∃ v, e = .returned v ∧ OSl RNo 4 25 w.heap.size (fun j => w.heap.size ≤ j) w' v l ∧ Ext w w'
set_option maxRecDepth 100000 in
set_option maxHeartbeats 4000000 in
theorem ownsNotes_any {F : Nat → Prop} {w : World} {v : Value} {l : List No} (h : RSl RNo 4 F w v l) (hl : l.length ≤ 1000) (hn : ∀ n ∈ l, checkN n = 0) :
    Calls Try.prog 48 #[v] w (IsOwnN l w) := by
  have HN := Lib.hid hn
  have HL := Lib.hid (fun (W : World) (hx : Ext w W) => h.ext gNo hx)
  obtain ⟨a0, n0, c0, rfl⟩ := h.slice
  obtain rfl : n0 = l.length := h.len.1
  obtain ⟨i0, hi0, hz0, hz1', hz2⟩ := info_parts info_noG
  have HJ := Lib.hid hi0
  have HZ0 := Lib.hid hz0
  have HZ1 := Lib.hid hz1'
  have HZ2 := Lib.hid hz2
  clear h hn hi0 hz0 hz1' hz2
  go_enter Try.func48, Try.ntmps48
  go_wp2_with fail
  go_loopw [3, 8] (fun ov iv wr => ∃ k : Nat, k ≤ l.length ∧ iv = .int .i64 k ∧ Hid (OSl RNo 4 25 w.heap.size (fun j => w.heap.size ≤ j) wr ov (l.take k)) ∧ Hid (Ext w wr)) (fun _ iv _ => l.length - (intOf iv).toNat)
  case atStart => exact ⟨0, Nat.zero_le _, rfl, Lib.hid osl_nil, Lib.hid (ext_refl _)⟩
  case round =>
    obtain ⟨k, hk, rfl, HO, HX⟩ := hrel
    have hzr := HX.out.size
    have HOL := Lib.hid (osl_lt HO.out)
    obtain ⟨a5, n5, c5, rfl⟩ := osl_slice HO.out
    obtain rfl : n5 = (l.take k).length := (osl_len HO.out).1
    by_cases hlt : k < l.length
    · obtain ⟨b, o, d, a1, n1, c1, a2, n2, c2, rfl, hb, ek, hd, y0, y1, y2, y3⟩ := note_at (HL.out wr HX.out) hlt
      obtain ⟨s1, s2, s3⟩ := note_small (HN.out d (List.mem_of_getElem? ek))
      have HOW := Lib.hid (fun (W : World) (hx : Ext wr W) => ownNote_any (gNo.ext hd hx) s1 s2 s3)
      have HEK := Lib.hid (take_snocG ek)
      have hfl : (l.take k).length ≤ 1000 := by rw [List.length_take]; omega
      have hbr : b < wr.heap.size := hb
      generalize l.take k = fl at *
      clear ek hd s1 s2 s3
      go_wp2_with (first | (go_at_call 66; go_must ((with_reducible refine (HOW.out _ extA).mono ?_); rintro e w2 ⟨cs2, rfl, hn2, hx2⟩; have HN2 := Lib.hid hn2; obtain ⟨v2, u2, rfl, _, _, hv2, hu2⟩ := hn2; obtain ⟨a3, n3, c3, rfl⟩ := hv2.slice; obtain ⟨a4, n4, c4, rfl⟩ := hu2.slice; clear hv2 hu2; have hz2 := hx2.size; (try simp at hz2); have hb2 : wr.heap.size < w2.heap.size := (by omega); have HX2 := Lib.hid (show Ext wr w2 from ext_trans extA hx2))) | (at_builtin; go_must (refine wpList_appAll gNo rfl (.tmp 12) (.tmp 15) 36 rfl w.heap.size 25 i0 _ 4 64 Try.underlying36 HJ.out HZ0.out HZ1.out HZ2.out rfl (by omega) (F := fun j => w.heap.size ≤ j) (G := fun j => wr.heap.size ≤ j) (.slice a5 fl.length c5) fl rfl (osl_ext gNo HO.out (ext_trans HX2.out extA)) (.slice (some ⟨w2.heap.size, 0, none⟩) 1 1) [d] rfl (rd_one rfl (rangeAt4G (by first | (with_reducible assumption) | go_simp) (by first | (with_reducible assumption) | go_simp) (by first | (with_reducible assumption) | go_simp) (by first | (with_reducible assumption) | go_simp)) (gNo.ext (gNo.more (fun j hj _ => (show wr.heap.size ≤ j by first | omega | (simp at hj; omega))) HN2.out) extA) (by first | omega | (simp <;> omega)) (by first | omega | (simp <;> omega)) (Nat.le_refl _) (by unfold maxLen; omega)) one_noG (fun j hj _ => ⟨Nat.le_trans hzr hj, fun e => by have := (HOL.out j e.symm).2; have hj' : wr.heap.size ≤ j := hj; omega⟩) (noG_len hfl) (noG_byt hfl) (by first | omega | (simp <;> omega)) ?_; intro v9 w9 hown9 hg9 hat9; obtain ⟨a9, n9, c9, rfl⟩ := osl_slice hown9; have HX9 := Lib.hid (show Ext w w9 from ext_grow (ext_trans HX.out (ext_trans HX2.out extA)) hg9 (fun j hj => (HOL.out j hj).1)); clear hg9 hat9)))
      go_roundw
      case rel => exact ⟨k + 1, by omega, by go_num, Lib.hid (by rw [HEK.out]; exact hown9), HX9⟩
      case measure => simp [intOf]; omega
    · obtain rfl : k = l.length := by omega
      have HF := Lib.hid (show OSl RNo 4 25 w.heap.size (fun j => w.heap.size ≤ j) wr (.slice a5 (l.take l.length).length c5) l by have := HO.out; rw [List.take_of_length_le (Nat.le_refl _)] at this ⊢; exact this)
      go_wp2_with fail
      go_ret
      exact ⟨_, rfl, HF.out, HX.out⟩
end Go.Proofs.Ytiladkinndgeaaa
/- The same notes, of equal ones. -/
namespace Go.Proofs.Ytiladkinndgeaaa
open Go Go.RowKit Go.BigFrame Cp

set_option maxRecDepth 100000 in
set_option maxHeartbeats 4000000 in
theorem sameNote_any {F G : Nat → Prop} {w : World} {cs ds : List Value} {n : No} (h : RNo F w cs n) (k : RNo G w ds n) :
    Calls Try.prog 14 #[.agg cs.toArray, .agg ds.toArray] w fun e w' => e = .returned (.bool true) ∧ Ext w w' := by
  obtain ⟨v, u, rfl, i1, i2, h1, h2⟩ := h
  obtain ⟨v', u', rfl, _, _, k1, k2⟩ := k
  obtain ⟨st, nu, l, q⟩ := n
  simp only at h1 h2 k1 k2 ⊢
  have HSI := Lib.hid (fun (W : World) (hx : Ext w W) => sameInts_any (h1.ext gInt hx) (k1.ext gInt hx))
  have HSD := Lib.hid (fun (W : World) (hx : Ext w W) => sameDeeds_any (h2.ext gDe hx) (k2.ext gDe hx))
  obtain ⟨a1, n1, c1, rfl⟩ := h1.slice
  obtain ⟨a2, n2, c2, rfl⟩ := h2.slice
  obtain ⟨a3, n3, c3, rfl⟩ := k1.slice
  obtain ⟨a4, n4, c4, rfl⟩ := k2.slice
  clear h1 h2 k1 k2 i1 i2
  go_enter Try.func14, Try.ntmps14
  go_wp2_with (first | (go_at_call 44; go_must ((with_reducible refine (HSI.out _ extA).mono ?_); rintro e w2 ⟨rfl, hx2⟩; have hz2 := hx2.size; (try simp at hz2); have x3 := (hx2.cells (w.heap.size) 3 (by first | omega | (simp <;> omega))).trans (show _ = some (.slice a2 n2 c2) by first | (with_reducible assumption) | go_simp); have x7 := (hx2.cells (w.heap.size + 1) 3 (by first | omega | (simp <;> omega))).trans (show _ = some (.slice a4 n4 c4) by first | (with_reducible assumption) | go_simp); have HX2 := Lib.hid (show Ext w w2 from ext_trans extA hx2))) | (go_at_call 45; go_must ((with_reducible refine (HSD.out _ (ext_trans HX2.out extA)).mono ?_); rintro e w3 ⟨rfl, hx3⟩; have HX3 := Lib.hid (show Ext w w3 from ext_trans (ext_trans HX2.out extA) hx3))))
  go_ret
  exact ⟨rfl, ext_trans HX3.out extA⟩
set_option maxRecDepth 100000 in
set_option maxHeartbeats 4000000 in
theorem sameNotes_any {F G : Nat → Prop} {w : World} {v u : Value} {l : List No} (h : RSl RNo 4 F w v l) (k : RSl RNo 4 G w u l) :
    Calls Try.prog 21 #[v, u] w fun e w' => e = .returned (.bool true) ∧ Ext w w' := by
  have HL := Lib.hid (fun (W : World) (hx : Ext w W) => h.ext gNo hx)
  have HM := Lib.hid (fun (W : World) (hx : Ext w W) => k.ext gNo hx)
  obtain ⟨a, n, c, rfl⟩ := h.slice
  obtain ⟨a2, n2, c2, rfl⟩ := k.slice
  obtain ⟨rfl, hn1, hn2⟩ := h.len
  obtain ⟨rfl, _, _⟩ := k.len
  unfold maxLen at hn2
  have q1 : l.length ≤ 9223372036854775807 := by omega
  clear h k hn1 hn2
  go_enter Try.func21, Try.ntmps21
  go_wp2
  go_loopw [5] (fun i wr => ∃ q : Nat, q ≤ l.length ∧ i = .int .i64 q ∧ Ext w wr) (fun i _ => l.length - (intOf i).toNat)
  case atStart => exact ⟨0, Nat.zero_le _, rfl, ext_refl _⟩
  case round =>
    obtain ⟨q, hq, rfl, hx⟩ := hrel
    have HX := Lib.hid hx
    clear hx
    by_cases hlt : q < l.length
    · obtain ⟨b, o, d, b1, m1, e1, b2, m2, e2, rfl, hb, ek, hde, u0, u1, u2, u3⟩ := note_at (HL.out wr HX.out) hlt
      obtain ⟨b', o', d', b1', m1', e1', b2', m2', e2', rfl, hb', ek', hde', v0, v1, v2, v3⟩ := note_at (HM.out wr HX.out) hlt
      obtain rfl : d = d' := by rw [ek] at ek'; exact Option.some.inj ek'
      have HSM := Lib.hid (fun (W : World) (hx : Ext wr W) => sameNote_any (gNo.ext hde hx) (gNo.ext hde' hx))
      generalize d.site = st at *
      generalize d.number = nu at *
      clear ek ek' hde hde'
      go_wp2_with fail
      refine wp_name (fun W2 eW2 => ?_)
      have e10 : W2.cell? ⟨b, o + q * 4, none⟩ = some (.int .i64 st) := by rw [eW2]; go_simp
      have e11 : W2.cell? ⟨b, o + q * 4 + 1, none⟩ = some (.int .i64 nu) := by rw [eW2]; go_simp
      have e12 : W2.cell? ⟨b, o + q * 4 + 2, none⟩ = some (.slice b1 m1 e1) := by rw [eW2]; go_simp
      have e13 : W2.cell? ⟨b, o + q * 4 + 3, none⟩ = some (.slice b2 m2 e2) := by rw [eW2]; go_simp
      have e14 : W2.cell? ⟨b', o' + q * 4, none⟩ = some (.int .i64 st) := by rw [eW2]; go_simp
      have e15 : W2.cell? ⟨b', o' + q * 4 + 1, none⟩ = some (.int .i64 nu) := by rw [eW2]; go_simp
      have e16 : W2.cell? ⟨b', o' + q * 4 + 2, none⟩ = some ((.slice b1' m1' e1')) := by rw [eW2]; go_simp
      have e17 : W2.cell? ⟨b', o' + q * 4 + 3, none⟩ = some ((.slice b2' m2' e2')) := by rw [eW2]; go_simp
      have zW2_0 : b < W2.heap.size := by rw [eW2]; first | assumption | omega | (simp <;> omega)
      have zW2_1 : b' < W2.heap.size := by rw [eW2]; first | assumption | omega | (simp <;> omega)
      have hw2 : Ext wr W2 := by rw [eW2]; exact extA
      clear eW2
      refine wp_region_later fol (by kernel_rfl) (fun hlater => ?_)
      repeat (go_big_quiet_step ((first
          | (go_at_call 14; (with_reducible exact later_of (HSM.out _ (ext_trans hw2 (Later.ext _))))))))
      refine wpQuiet_nil ?_
      rintro w3 ⟨⟨w3x, hx3⟩, rfl⟩
      clear hlater
      go_wp2_with fail
      go_roundw
      case rel => exact ⟨q + 1, by omega, by go_num, ext_trans HX.out (ext_trans hw2 hx3)⟩
      case measure => simp [intOf]; omega
    · go_wp2
      go_ret
      exact ⟨rfl, HX.out⟩
end Go.Proofs.Ytiladkinndgeaaa
