/- Who does deeds: a deed. -/
import Derived.Test.YtfgfdohppgoajaaGreatQ6c285e8d1e
import Derived.Test.YtfgfdohppgoajaaGreatQe429534833
import Derived.Test.YtfgfdohppgoajaaGreatQ0968510478
import Derived.Test.YtfgfdohppgoajaaGreatQ5ab4d67304
import Derived.Test.YtfgfdohppgoajaaGreatQebf1797204
import Derived.Test.YtfgfdohppgoajaaGreatQ8ebb1f5718
import Derived.Test.YtfgfdohppgoajaaGreatQa1b06f5163
set_option linter.unusedVariables false
set_option linter.unusedSimpArgs false
namespace Go.Proofs.YtfgfdohppgoajaaGreat
open Go Go.RowKit Go.BigFrame Cp

theorem marksN_succ (m : Mk) (k : Nat) : marksN m (k + 1) = marksN m k ++ [afterM m (k : Int)] := by unfold marksN; rw [List.range_succ, List.map_append]; rfl
theorem putGs_snoc (l ms : List Mk) (m : Mk) : putGs l (ms ++ [m]) = putG (putGs l ms) m := by simp [putGs]
theorem rrn_of_de {F : Nat → Prop} {w : World} {v s u : Value} {d : De} (h : RDe F w [.int .i64 d.kind, v, .int .i64 d.run.1.2, s, u, .int .i64 d.mark.2, .int .i64 d.many] d) : RRn F w [v, .int .i64 d.run.1.2, s] d.run ∧ RMk F w [u, .int .i64 d.mark.2] d.mark := by
  obtain ⟨v', s', u', e, _, h1, h2, h3, h4, h5, _⟩ := h
  simp at e
  obtain ⟨rfl, rfl, rfl⟩ := e
  exact ⟨⟨_, _, rfl, h1, h2, h3⟩, ⟨_, rfl, h4, h5⟩⟩
set_option maxRecDepth 100000 in
set_option maxHeartbeats 4000000 in
theorem one_any {Z F : Nat → Prop} {w : World} {B b : Nat} {s : St} {v u : Value} {cs : List Value} {d : De} (h : DoerIs Z B b s w v u) (hde : RDe F w cs d) (hc : checkD d = 0) (hF : ∀ j, F j → Z j) (hZ : ∀ j, Z j → j < w.heap.size)
    (hs : RightA s.1) (hg : SortedG s.2) (hl3 : s.1.length ≤ 300) (hn : s.2.length ≤ 600) :
    Calls Tryz.prog 95 #[.pointer (some ⟨b, 0, none⟩), .agg cs.toArray] w (fun e w' => e = .returned (.bool (!tooMuch (doDeed s d))) ∧ DoerAt Z B b (doDeed s d) w' ∧ Kept Z w w') := by
  have hbw := doer_lt h
  obtain ⟨v0, x0, u0, rfl, hk, h1, h2, h3, h4, h5, h6⟩ := hde
  have hboth := rrn_of_de ⟨v0, x0, u0, rfl, hk, h1, h2, h3, h4, h5, h6⟩
  obtain ⟨a1, n1, c1, rfl⟩ := h1.slice
  obtain ⟨a2, n2, c2, rfl⟩ := h4.slice
  obtain ⟨sx, rfl, _⟩ := tx_bytes h3
  obtain ⟨hrn, hmk⟩ := hboth
  have HRN := Lib.hid (fun (W : World) (hx : Ext w W) => gRn.ext hrn hx)
  obtain ⟨Y, hY⟩ : ∃ Y : Nat → Prop, Y = fun j => Z j ∨ j = w.heap.size := ⟨_, rfl⟩
  have HMK := Lib.hid (show RMk Y w [.slice a2 n2 c2, .int .i64 d.mark.2] d.mark from gMk.more (fun j hj _ => by rw [hY]; exact .inl (hF j hj)) hmk)
  have HDZ := Lib.hid (fun (W : World) (hx : Ext w W) => doer_ext h hx)
  have HDY := Lib.hid (fun (W : World) (hx : Ext w W) => doer_ext (doer_z (Y := Y) h (by rw [hY]; exact fun j hj => hj.elim .inl (fun e => .inr (by omega)))) hx)
  have HYZ := Lib.hid (show ∀ j, Z j → Y j by rw [hY]; exact fun j hj => .inl hj)
  have HYB := Lib.hid (show Y w.heap.size by rw [hY]; exact .inr rfl)
  have HYL := Lib.hid (show ∀ j, Y j → j ≤ w.heap.size by rw [hY]; exact fun j hj => hj.elim (fun h => Nat.le_of_lt (hZ j h)) (fun h => by omega))
  have HZ := Lib.hid hZ
  have HS := Lib.hid hs
  have HG := Lib.hid hg
  clear h h1 h2 h3 h4 h5 h6 hk hrn hmk hY hF hZ hs hg
  by_cases hkd : d.kind = 1
  · obtain ⟨hc1, hc2, hc3⟩ := deed_put hc hkd
    have hE : doDeed s d = (putNs s.2 s.1 (atomsR d.run), s.2) := by unfold doDeed; rw [if_pos hkd]
    rw [hE]
    have HPU := Lib.hid (fun (W : World) (hx : Ext w W) => dput_any (HDZ.out W hx) (HRN.out W hx) hc1 (fun j hj => Nat.lt_of_lt_of_le (HZ.out j hj) hx.size) HS.out HG.out hl3 (by omega))
    have hkk : (d.kind == 1) = true := by simpa using hkd
    obtain ⟨la, lg⟩ := s
    simp only at HPU hE hl3 hn ⊢
    generalize putNs lg la (atomsR d.run) = la' at *
    clear hE hc HMK HDY HYZ HYB HYL HDZ HRN
    go_enter Tryz.func95, Tryz.ntmps95
    go_wp2_with (first | (go_at_call 128; go_must ((with_reducible refine (HPU.out _ extA).mono ?_); rintro e w3 ⟨rfl, ⟨v3, u3, hd3⟩, hk3⟩; obtain ⟨a3, n3, c3, rfl⟩ := osl_slice hd3.oa; obtain ⟨a4, n4, c4, rfl⟩ := osl_slice hd3.og; have HD3 := Lib.hid hd3; have HK3 := Lib.hid hk3; have p0 := hd3.c0; have p1 := hd3.c1; obtain rfl := (osl_len hd3.oa).1; obtain rfl := (osl_len hd3.og).1; clear hd3 hk3)))
    all_goals go_ret
    all_goals refine ⟨rb ?_, ⟨_, _, HD3.out⟩, kept_trans (kept_ext extA) HK3.out⟩
    all_goals (rw [Bool.eq_iff_iff]; simp [tooMuch]; omega)
  · obtain ⟨hc1, hc2, ⟨n, hn0, hn1, hn2⟩, hc4, hc5, hc6⟩ := deed_take hc hkd
    have hE : doDeed s d = (takeA s.1 (marksN d.mark n), putGs s.2 (marksN d.mark n)) := by
      have : marksD d = marksN d.mark n := by unfold marksD; rw [if_neg hkd, hn0]; simp
      unfold doDeed; rw [if_neg hkd, this]
    rw [hE]
    have hkk : (d.kind == 1) = false := by simpa using hkd
    obtain ⟨la, lg⟩ := s
    simp only at hE hl3 hn HS HG ⊢
    have HAF := Lib.hid (fun (k : Nat) (hk : k < n) (W : World) (hx : RMk Y W [.slice a2 n2 c2, .int .i64 d.mark.2] d.mark) => after_any (k := (k : Int)) hx (check_len hc2) (check_ne hc2) (check_digit hc2) (check_clock hc2) ⟨by omega, by omega⟩)
    generalize hdm : d.mark = dm at *
    generalize d.kind = dk at *
    generalize d.many = dn at *
    generalize d.run = dr at *
    subst hn0
    clear hc1 hkd hc hE HDZ HRN hc6 hc5 hc4 hdm
    go_enter Tryz.func95, Tryz.ntmps95
    go_wp2_with fail
    refine wp_name (fun w1 ew1 => ?_)
    have b4 : w1.cell? ⟨w.heap.size, 4, none⟩ = some (.slice a2 n2 c2) := by rw [ew1]; go_simp
    have b5 : w1.cell? ⟨w.heap.size, 5, none⟩ = some (.int .i64 dm.2) := by rw [ew1]; go_simp
    have hw1 : Ext w w1 := by rw [ew1]; exact extA
    have hs1 : w.heap.size < w1.heap.size := by rw [ew1]; first | omega | (simp <;> omega)
    clear ew1
    have HW1 := Lib.hid hw1
    go_loopw [15] (fun iv wr => ∃ k : Nat, k ≤ n ∧ iv = .int .i64 k ∧ Hid (DoerAt Y B b (takeA la (marksN dm k), putGs lg (marksN dm k)) wr) ∧ Hid (Kept Y w1 wr)) (fun iv _ => n - (intOf iv).toNat)
    case atStart => exact ⟨0, Nat.zero_le _, rfl, Lib.hid ⟨_, _, by have := HDY.out w1 HW1.out; simpa [marksN, takeA_nil, putGs] using this⟩, Lib.hid kept_refl⟩
    case round =>
      obtain ⟨k, hk, rfl, HD, HK⟩ := hrel
      have x4 := (HK.out.cell HYB.out hs1 4).trans b4
      have x5 := (HK.out.cell HYB.out hs1 5).trans b5
      have hsr := HK.out.size
      have hbr : w.heap.size < wr.heap.size := by omega
      obtain ⟨v3, u3, hd3⟩ := HD.out
      have HD3 := Lib.hid hd3
      have HMR := Lib.hid (show RMk Y wr [.slice a2 n2 c2, .int .i64 dm.2] dm from gMk.keep (kept_trans (kept_ext HW1.out) HK.out).keeps HMK.out)
      clear b4 b5 hd3
      by_cases hlt : k < n
      · have HTK := Lib.hid (fun (W : World) (hx : Ext wr W) (ds : List Value) (m : Mk) (hm : RMk (fun j => wr.heap.size ≤ j) W ds m) => take_any HD3.out hx hm (fun j hj => by have := HYL.out j hj; have := hx.size; omega) (takeA_right HS.out).1 (putGs_sorted HG.out) (Nat.le_trans (takeA_len _ _) (by omega)) (Nat.le_trans (putGs_len _ _) (by rw [marksN_len]; show lg.length + k ≤ 1000; omega)))
        have hex : (takeA (takeA la (marksN dm k)) [afterM dm k], putG (putGs lg (marksN dm k)) (afterM dm k)) = (takeA la (marksN dm (k + 1)), putGs lg (marksN dm (k + 1))) := by rw [marksN_succ, takeA_one, putGs_snoc]
        have HEX := Lib.hid hex
        have HA := Lib.hid (HAF.out k hlt)
        clear hex
        go_wp2_with (first | (go_at_call 76; go_must ((with_reducible refine (HA.out _ HMR.out).mono ?_); rintro e w3 ⟨cs3, rfl, hm3, hx3⟩; have HM3 := Lib.hid (omk_mk hm3); obtain ⟨v5, rfl, hv5, hi5⟩ := hm3; obtain ⟨a5, n5, c5, rfl⟩ := osl_slice hv5; have HX3 := Lib.hid hx3; have hs3 := hx3.size; clear hv5)) | (go_at_call 129; go_must ((with_reducible refine (HTK.out _ HX3.out _ _ HM3.out).mono ?_); rintro e w4 ⟨rfl, ht4⟩; have HT4 := Lib.hid ht4; clear ht4)))
        go_roundw
        case rel =>
          exact ⟨k + 1, by omega, by go_num, Lib.hid (by have := HT4.out.1; rw [HEX.out] at this; exact this), Lib.hid (kept_trans HK.out (kept_trans (kept_ext HX3.out) HT4.out.2))⟩
        case measure => simp [intOf]; omega
      · obtain rfl : k = n := by omega
        obtain ⟨a3, n3, c3, rfl⟩ := osl_slice HD3.out.oa
        obtain ⟨a4, n4, c4, rfl⟩ := osl_slice HD3.out.og
        have p0 := HD3.out.c0
        have p1 := HD3.out.c1
        have e3 := (osl_len HD3.out.oa).1
        have e4 := (osl_len HD3.out.og).1
        simp only at e3 e4
        have HFIN := Lib.hid (show DoerAt Z B b (takeA la (marksN dm k), putGs lg (marksN dm k)) wr from ⟨_, _, doer_z HD3.out (fun j hj => .inl (HYZ.out j hj))⟩)
        have HKF := Lib.hid ((kept_trans (kept_ext HW1.out) HK.out).less HYZ.out)
        subst e3 e4
        clear HD HD3 HK
        go_wp2
        all_goals go_ret
        all_goals refine ⟨rb ?_, HFIN.out, HKF.out⟩
        all_goals (rw [Bool.eq_iff_iff]; simp [tooMuch]; omega)
end Go.Proofs.YtfgfdohppgoajaaGreat
/- Deeds that are right, of a state that is. -/
namespace Go.Proofs.YtfgfdohppgoajaaGreat
open Go Go.RowKit Go.BigFrame Cp

/-- a state of one's own: two rows, and neither is the other's, nor holds the other's elements -/
def OwnSt (B : Nat) (s : St) (W : World) (v u : Value) : Prop := OSl RAt 3 83 B (fun j => B ≤ j ∧ some j ≠ u.ownBlock) W v s.1 ∧ OSl RMk 2 47 B (fun j => B ≤ j ∧ some j ≠ v.ownBlock) W u s.2 ∧ ∀ j, v.ownBlock = some j → u.ownBlock ≠ some j
/-- what doing deeds comes to -/
def IsRawS (o : Option St) (w : World) (e : Ending) (w' : World) : Prop := match o with
  | none => e = .returned (.tuple #[.agg #[.slice none 0 0, .slice none 0 0], .bool false]) ∧ Ext w w'
  | some t => ∃ v u, e = .returned (.tuple #[.agg #[v, u], .bool true]) ∧ OwnSt w.heap.size t w' v u ∧ Ext w w'
theorem ownSt_of {B b base : Nat} {Z : Nat → Prop} {s : St} {w w' : World} {v u : Value} (h : DoerIs Z B b s w v u) (hb : base ≤ B) (hk : Keeps (fun j => B ≤ j) w w') : OwnSt base s w' v u := by
  have h1 := osl_lt h.oa
  have h2 := osl_lt h.og
  refine ⟨osl_more gAt (osl_base hb (osl_keep gAt h.oa (hk.weaken (fun j _ hj => ?_)))) (fun k hk _ _ => ⟨by omega, hk.2.2⟩), osl_more gMk (osl_base hb (osl_keep gMk h.og (hk.weaken (fun j _ hj => ?_)))) (fun k hk _ _ => ⟨by omega, hk.2.2⟩), fun j hj => (h.ra j hj).1⟩
  · rcases hj with hj | hj
    · exact hj.1
    · exact (h1 j hj.symm).1
  · rcases hj with hj | hj
    · exact hj.1
    · exact (h2 j hj.symm).1
/-- a state of one's own, that lies in a block that is new -/
theorem doer_of {Z : Nat → Prop} {B b : Nat} {s : St} {w w' : World} {v u : Value} (h1 : OSl RAt 3 83 B (fun j => B ≤ j ∧ some j ≠ u.ownBlock) w v s.1) (h2 : OSl RMk 2 47 B (fun j => B ≤ j ∧ some j ≠ v.ownBlock) w u s.2) (h3 : ∀ j, v.ownBlock = some j → u.ownBlock ≠ some j)
    (hx : Ext w w') (hb : w.heap.size ≤ b) (hB : B ≤ b) (c0 : w'.cell? ⟨b, 0, none⟩ = some v) (c1 : w'.cell? ⟨b, 1, none⟩ = some u) (fz : ∀ o, w'.frozen? ⟨b, o, none⟩ = false) (hZ : ∀ j, Z j → j < B) : DoerIs Z B b s w' v u := by
  have r1 := osl_lt h1
  have r2 := osl_lt h2
  have h1' := osl_ext gAt (osl_more gAt h1 (G := fun j => B ≤ j ∧ j ≠ b ∧ some j ≠ u.ownBlock) (fun k hk hl _ => ⟨hk.1, by omega, hk.2⟩)) hx
  have h2' := osl_ext gMk (osl_more gMk h2 (G := fun j => B ≤ j ∧ j ≠ b ∧ some j ≠ v.ownBlock) (fun k hk hl _ => ⟨hk.1, by omega, hk.2⟩)) hx
  exact ⟨c0, c1, fz, h1', h2', fun j hj => ⟨h3 j hj, by have := (r1 j hj).2; omega, fun hz => by have := (r1 j hj).1; have := hZ j hz; omega⟩, fun j hj => ⟨by have := (r2 j hj).2; omega, fun hz => by have := (r2 j hj).1; have := hZ j hz; omega⟩, hB, fun hz => by have := hZ b hz; omega⟩
set_option maxRecDepth 100000 in
set_option maxHeartbeats 4000000 in
theorem rawS_any {F G : Nat → Prop} {w : World} {cs : List Value} {s : St} {x : Value} {l : List De} (h : RSt F w cs s) (hl : RSl RDe 7 G w x l) (hs : FitS s) (hd : ∀ d ∈ l, checkD d = 0) :
    Calls Tryz.prog 51 #[.agg cs.toArray, x] w (IsRawS (doDs s l) w) := by
  have HOW := Lib.hid (fun (W : World) (hx : Ext w W) => ownState_any (gSt.ext h hx) (by have := hs.2.1; omega) (by have := hs.2.2; omega) (fun a ha => check_len (hs.1.1.2 a ha).1) (fun m hm => check_len (hs.1.2.2.1 m hm)))
  have hl' : RSl RDe 7 (fun j => j < w.heap.size) w x l := RSl.more gDe (fun _ _ hk => hk) hl
  have HL := Lib.hid (fun (W : World) (hx : Ext w W) => hl'.ext gDe hx)
  obtain ⟨v, u, rfl, h1, h2⟩ := h
  obtain ⟨a0, n0, c0, rfl⟩ := h1.slice
  obtain ⟨a1, n1, c1, rfl⟩ := h2.slice
  obtain ⟨a2, n2, c2, rfl⟩ := hl'.slice
  obtain rfl : n2 = l.length := hl'.len.1
  have hll : l.length ≤ 9223372036854775807 := by have := hl'.len; unfold maxLen at this; omega
  have HFS := Lib.hid hs
  have HD := Lib.hid hd
  clear h1 h2 hl hl' hs hd
  go_enter Tryz.func51, Tryz.ntmps51
  go_wp2_with (first | (go_at_call 94; go_must ((with_reducible refine (HOW.out _ extA).mono ?_); rintro e w1 ⟨v1, u1, rfl, ho1, ho2, ho3, hx1⟩; obtain ⟨a3, n3, c3, rfl⟩ := osl_slice ho1; obtain ⟨a4, n4, c4, rfl⟩ := osl_slice ho2; simp only [World.size_alloc, Nat.add_assoc, Nat.reduceAdd] at ho1 ho2; have HO1 : Hid (OSl RAt 3 83 (w.heap.size + 2) (fun j => w.heap.size + 2 ≤ j ∧ some j ≠ (Value.slice a4 n4 c4).ownBlock) w1 (.slice a3 n3 c3) s.1) := Lib.hid ho1; have HO2 : Hid (OSl RMk 2 47 (w.heap.size + 2) (fun j => w.heap.size + 2 ≤ j ∧ some j ≠ (Value.slice a3 n3 c3).ownBlock) w1 (.slice a4 n4 c4) s.2) := Lib.hid ho2; have HO3 := Lib.hid ho3; have HX1 := Lib.hid hx1; have hs1 := hx1.size; (try simp at hs1); have q0 := (hx1.cells (w.heap.size + 1) 0 (by first | omega | (simp <;> omega))).trans (show _ = some (.slice none 0 0) by first | assumption | go_simp); have q1 := (hx1.cells (w.heap.size + 1) 1 (by first | omega | (simp <;> omega))).trans (show _ = some (.slice none 0 0) by first | assumption | go_simp); have qf0 := (hx1.frz (w.heap.size + 1) 0 (by first | omega | (simp <;> omega))).trans (show _ = false by first | assumption | go_simp); have qf1 := (hx1.frz (w.heap.size + 1) 1 (by first | omega | (simp <;> omega))).trans (show _ = false by first | assumption | go_simp); have HXW := Lib.hid (show Ext w w1 from ext_trans extA hx1); clear ho1 ho2 ho3 hx1)))
  refine wp_name (fun w2 ew2 => ?_)
  have hB2 : w.heap.size + 2 ≤ w1.heap.size := by omega
  have hl1 : w.heap.size + 1 < w1.heap.size := by omega
  have r0 : w2.cell? ⟨w.heap.size + 1, 0, none⟩ = some (.slice none 0 0) := by rw [ew2]; go_simp
  have r1 : w2.cell? ⟨w.heap.size + 1, 1, none⟩ = some (.slice none 0 0) := by rw [ew2]; go_simp
  have rf0 : w2.frozen? ⟨w.heap.size + 1, 0, none⟩ = false := by rw [ew2]; go_simp
  have rf1 : w2.frozen? ⟨w.heap.size + 1, 1, none⟩ = false := by rw [ew2]; go_simp
  have HW2 := Lib.hid (show Ext w w2 by rw [ew2]; exact ext_alloc HXW.out _)
  have hs2 : w1.heap.size < w2.heap.size := by rw [ew2]; simp
  obtain ⟨Z, hZ⟩ : ∃ Z : Nat → Prop, Z = fun j => j < w.heap.size + 2 := ⟨_, rfl⟩
  have HZL := Lib.hid (show ∀ j, j < w.heap.size + 2 → Z j by rw [hZ]; exact fun j hj => hj)
  have HZU := Lib.hid (show ∀ j, Z j → j < w.heap.size + 2 by rw [hZ]; exact fun j hj => hj)
  have HDR := Lib.hid (show DoerIs Z (w.heap.size + 2) w1.heap.size s w2 (.slice a3 n3 c3) (.slice a4 n4 c4) by
    rw [ew2]
    exact doer_of HO1.out HO2.out HO3.out (ext_alloc (ext_refl _) _) (Nat.le_refl _) hB2 (by go_simp) (by go_simp) (fun o => by go_simp) HZU.out)
  clear ew2 hZ q0 q1 qf0 qf1 HO1 HO2 HO3 HX1 HXW HOW
  go_loopw [15] (fun iv wr => ∃ (k : Nat) (t : St), k ≤ l.length ∧ iv = .int .i64 k ∧ Hid (doDs s (l.take k) = some t) ∧ Hid (DoerAt Z (w.heap.size + 2) w1.heap.size t wr) ∧ Hid (Kept Z w2 wr)) (fun iv _ => l.length - (intOf iv).toNat)
  case atStart => exact ⟨0, s, Nat.zero_le _, rfl, Lib.hid rfl, Lib.hid ⟨_, _, HDR.out⟩, Lib.hid kept_refl⟩
  case round =>
    obtain ⟨k, t, hk, rfl, HT, HDO, HK⟩ := hrel
    have HX := Lib.hid (HK.out.toExt HW2.out (fun j hj => HZL.out j (by omega)))
    have hsr := HK.out.size
    have hwr : w.heap.size + 1 < wr.heap.size := by omega
    have hwn : ¬ w.heap.size + 1 = wr.heap.size := by omega
    have x0 := (HK.out.cell (HZL.out (w.heap.size + 1) (by omega)) (by omega) 0).trans r0
    have x1 := (HK.out.cell (HZL.out (w.heap.size + 1) (by omega)) (by omega) 1).trans r1
    have xf0 := (HK.out.frz (HZL.out (w.heap.size + 1) (by omega)) (by omega) 0).trans rf0
    have xf1 := (HK.out.frz (HZL.out (w.heap.size + 1) (by omega)) (by omega) 1).trans rf1
    have HFT := Lib.hid (doDs_fit HFS.out (fun d hd => HD.out d (List.mem_of_mem_take hd)) HT.out)
    obtain ⟨v3, u3, hd3⟩ := HDO.out
    have HD3 := Lib.hid hd3
    clear hd3 r0 r1 rf0 rf1
    by_cases hlt : k < l.length
    · obtain ⟨b, o, d, b1, m1, e1, b2, m2, e2, sx, rfl, hb, ek, hde, y0, y1, y2, y3, y4, y5, y6⟩ := deed_at (HL.out wr HX.out) hlt
      have hcd := HD.out d (List.mem_of_getElem? ek)
      have HON := Lib.hid (fun (W : World) (hx : Ext wr W) => one_any (doer_ext HD3.out hx) (gDe.ext hde hx) hcd (fun j hj => HZL.out j (by omega)) (fun j hj => by have := HZU.out j hj; have := hx.size; omega) HFT.out.1.1 HFT.out.1.2.1 HFT.out.2.1 HFT.out.2.2)
      obtain ⟨hn1, hn2⟩ := doDs_take ek HT.out
      have HN1 := Lib.hid hn1
      have HN2 := Lib.hid hn2
      have hbr : b < wr.heap.size := hb
      have hbn : ¬ b = wr.heap.size := by omega
      clear ek hde hcd hn1 hn2
      cases hm : tooMuch (doDeed t d) with
      | true =>
        rw [hm] at HON
        have HNN := Lib.hid (HN1.out hm)
        clear hm HN1 HN2
        go_wp2_with (first | (go_at_call 95; go_must ((with_reducible refine (HON.out _ extA).mono ?_); rintro e w5 ⟨rfl, hd5, hk5⟩; have HD5 := Lib.hid hd5; have hs5 := hk5.size; (try simp at hs5); have z0 := (hk5.cell (HZL.out (w.heap.size + 1) (by omega)) (by first | omega | (simp <;> omega)) 0).trans (show _ = some (.slice none 0 0) by first | assumption | go_simp); have z1 := (hk5.cell (HZL.out (w.heap.size + 1) (by omega)) (by first | omega | (simp <;> omega)) 1).trans (show _ = some (.slice none 0 0) by first | assumption | go_simp); have zf0 := (hk5.frz (HZL.out (w.heap.size + 1) (by omega)) (by first | omega | (simp <;> omega)) 0).trans (show _ = false by first | assumption | go_simp); have zf1 := (hk5.frz (HZL.out (w.heap.size + 1) (by omega)) (by first | omega | (simp <;> omega)) 1).trans (show _ = false by first | assumption | go_simp); have HK5 := Lib.hid (kept_trans (kept_trans HK.out (kept_ext extA)) hk5); have HX5 := Lib.hid (HK5.out.toExt HW2.out (fun j hj => HZL.out j (by omega))); clear hd5 hk5)))
        refine bodyPost_ret (v := .tuple #[.agg #[.slice none 0 0, .slice none 0 0], .bool false]) (by simp [results, Tryz.results51, go_sem, z0, z1]) rfl (by rw [HNN.out]; exact ⟨rfl, ext_set (ext_set HX5.out (by show w.heap.size ≤ w.heap.size + 1; omega) _) (by show w.heap.size ≤ w.heap.size + 1; omega) _⟩)
      | false =>
        rw [hm] at HON
        have HNN := Lib.hid (HN2.out hm)
        clear hm HN1 HN2
        go_wp2_with (first | (go_at_call 95; go_must ((with_reducible refine (HON.out _ extA).mono ?_); rintro e w5 ⟨rfl, hd5, hk5⟩; have HD5 := Lib.hid hd5; have hs5 := hk5.size; (try simp at hs5); have z0 := (hk5.cell (HZL.out (w.heap.size + 1) (by omega)) (by first | omega | (simp <;> omega)) 0).trans (show _ = some (.slice none 0 0) by first | assumption | go_simp); have z1 := (hk5.cell (HZL.out (w.heap.size + 1) (by omega)) (by first | omega | (simp <;> omega)) 1).trans (show _ = some (.slice none 0 0) by first | assumption | go_simp); have zf0 := (hk5.frz (HZL.out (w.heap.size + 1) (by omega)) (by first | omega | (simp <;> omega)) 0).trans (show _ = false by first | assumption | go_simp); have zf1 := (hk5.frz (HZL.out (w.heap.size + 1) (by omega)) (by first | omega | (simp <;> omega)) 1).trans (show _ = false by first | assumption | go_simp); have HK5 := Lib.hid (kept_trans (kept_trans HK.out (kept_ext extA)) hk5); have HX5 := Lib.hid (HK5.out.toExt HW2.out (fun j hj => HZL.out j (by omega))); clear hd5 hk5)))
        go_roundw
        case rel => exact ⟨k + 1, _, by omega, by go_num, HNN, HD5, HK5⟩
        case measure => simp [intOf]; omega
    · obtain rfl : k = l.length := by omega
      have HTT := Lib.hid (show doDs s l = some t by have := HT.out; rwa [List.take_of_length_le (Nat.le_refl _)] at this)
      obtain ⟨a5, n5, c5, rfl⟩ := osl_slice HD3.out.oa
      obtain ⟨a6, n6, c6, rfl⟩ := osl_slice HD3.out.og
      have p0 := HD3.out.c0
      have p1 := HD3.out.c1
      have hne : ¬ w1.heap.size = w.heap.size + 1 := by omega
      have hne' : ¬ w.heap.size + 1 = w1.heap.size := by omega
      clear HDO
      go_wp2
      refine bodyPost_ret (v := .tuple #[.agg #[.slice a5 n5 c5, .slice a6 n6 c6], .bool true]) (by simp [results, Tryz.results51, go_sem, x0, x1]) rfl (by
        rw [HTT.out]
        exact ⟨_, _, rfl, ownSt_of HD3.out (by omega) (keeps_set (keeps_set keeps_refl (fun _ h => by have h' : w.heap.size + 2 ≤ w.heap.size + 1 := h; omega) _) (fun _ h => by have h' : w.heap.size + 2 ≤ w.heap.size + 1 := h; omega) _), ext_set (ext_set HX.out (by show w.heap.size ≤ w.heap.size + 1; omega) _) (by show w.heap.size ≤ w.heap.size + 1; omega) _⟩)
end Go.Proofs.YtfgfdohppgoajaaGreat
/- Deeds, with errors. -/
namespace Go.Proofs.YtfgfdohppgoajaaGreat
open Go Go.RowKit Go.BigFrame Cp

/-- a state and an errno -/
def IsStE (t : St) (er : Int) (w : World) (e : Ending) (w' : World) : Prop := ∃ v u, e = .returned (.tuple #[.agg #[v, u], .int .i64 er]) ∧ OwnSt w.heap.size t w' v u ∧ Ext w w'
theorem ownSt_nil {B : Nat} {w : World} : OwnSt B ([], []) w (.slice none 0 0) (.slice none 0 0) := ⟨osl_nil, osl_nil, fun j h => by simp [Value.ownBlock] at h⟩
theorem ownSt_keep {B B' : Nat} {s : St} {w w' : World} {v u : Value} (h : OwnSt B s w v u) (hb : B' ≤ B) (hk : Keeps (fun j => B ≤ j) w w') : OwnSt B' s w' v u := by
  obtain ⟨h1, h2, h3⟩ := h
  have r1 := osl_lt h1
  have r2 := osl_lt h2
  refine ⟨osl_more gAt (osl_base hb (osl_keep gAt h1 (hk.weaken (fun j _ hj => ?_)))) (fun k hk _ _ => ⟨by omega, hk.2⟩), osl_more gMk (osl_base hb (osl_keep gMk h2 (hk.weaken (fun j _ hj => ?_)))) (fun k hk _ _ => ⟨by omega, hk.2⟩), h3⟩
  · rcases hj with hj | hj
    · exact hj.1
    · exact (r1 j hj.symm).1
  · rcases hj with hj | hj
    · exact hj.1
    · exact (r2 j hj.symm).1
set_option maxRecDepth 100000 in
set_option maxHeartbeats 4000000 in
theorem all_any {F G : Nat → Prop} {w : World} {cs : List Value} {s : St} {x : Value} {l : List De} (h : RSt F w cs s) (hl : RSl RDe 7 G w x l) :
    Calls Tryz.prog 8 #[.agg cs.toArray, x] w (IsStE (allV s l) (allE s l) w) := by
  have HCH := Lib.hid (fun (W : World) (hx : Ext w W) => checkStateP_any (gSt.ext h hx))
  have HRW := Lib.hid (fun (W : World) (hx : Ext w W) (he : errL s l = 0) => rawS_any (gSt.ext h hx) (hl.ext gDe hx) (allE_run he).1 (allE_run he).2.1)
  have HL := Lib.hid (fun (W : World) (hx : Ext w W) => hl.ext gDe hx)
  obtain ⟨v, u, rfl, h1, h2⟩ := h
  obtain ⟨a0, n0, c0, rfl⟩ := h1.slice
  obtain ⟨a1, n1, c1, rfl⟩ := h2.slice
  obtain ⟨a2, n2, c2, rfl⟩ := hl.slice
  obtain rfl : n2 = l.length := hl.len.1
  have hll : l.length ≤ 9223372036854775807 := by have := hl.len; unfold maxLen at this; omega
  have HST := Lib.hid (allAt_start s l)
  generalize hes : checkS s = es at *
  clear h1 h2 hl hes
  go_enter Tryz.func8, Tryz.ntmps8
  go_wp2_with (first | (go_at_call 40; go_must ((with_reducible refine (HCH.out _ extA).mono ?_); rintro e w1 ⟨rfl, hx1⟩; have hs1 := hx1.size; (try simp at hs1); have hlb0 : w.heap.size < w1.heap.size := (by omega); have hlb1 : w.heap.size + 1 < w1.heap.size := (by omega); have q0 := (hx1.cells (w.heap.size + 1) 0 (by first | omega | (simp <;> omega))).trans (show _ = some (.slice none 0 0) by first | assumption | go_simp); have q1 := (hx1.cells (w.heap.size + 1) 1 (by first | omega | (simp <;> omega))).trans (show _ = some (.slice none 0 0) by first | assumption | go_simp); have q2 := (hx1.cells (w.heap.size) 0 (by first | omega | (simp <;> omega))).trans (show _ = some (.slice a0 n0 c0) by first | assumption | go_simp); have q3 := (hx1.cells (w.heap.size) 1 (by first | omega | (simp <;> omega))).trans (show _ = some (.slice a1 n1 c1) by first | assumption | go_simp); have qf0 := (hx1.frz (w.heap.size + 1) 0 (by first | omega | (simp <;> omega))).trans (show _ = false by first | assumption | go_simp); have qf1 := (hx1.frz (w.heap.size + 1) 1 (by first | omega | (simp <;> omega))).trans (show _ = false by first | assumption | go_simp); have HXW := Lib.hid (show Ext w w1 from ext_trans extA hx1); clear hx1)))
  refine wp_name (fun w2 ew2 => ?_)
  have r0 : w2.cell? ⟨w.heap.size + 1, 0, none⟩ = some (.slice none 0 0) := by rw [ew2]; go_simp
  have r1 : w2.cell? ⟨w.heap.size + 1, 1, none⟩ = some (.slice none 0 0) := by rw [ew2]; go_simp
  have rf0 : w2.frozen? ⟨w.heap.size + 1, 0, none⟩ = false := by rw [ew2]; go_simp
  have rf1 : w2.frozen? ⟨w.heap.size + 1, 1, none⟩ = false := by rw [ew2]; go_simp
  have s0 : w2.cell? ⟨w.heap.size, 0, none⟩ = some (.slice a0 n0 c0) := by rw [ew2]; go_simp
  have s1 : w2.cell? ⟨w.heap.size, 1, none⟩ = some (.slice a1 n1 c1) := by rw [ew2]; go_simp
  have hs2 : w.heap.size + 2 ≤ w2.heap.size := by rw [ew2]; first | omega | (simp; omega)
  have HW2 := Lib.hid (show Ext w w2 by rw [ew2]; exact HXW.out)
  clear ew2 q0 q1 q2 q3 qf0 qf1 HXW HCH
  go_loopw [6, 7] (fun ev iv wr => ∃ (k : Nat) (er : Int), k ≤ l.length ∧ iv = .int .i64 k ∧ ev = .int .i64 er ∧ Hid (AllAt s l k er) ∧ Hid (Ext w2 wr)) (fun ev iv _ => l.length - (intOf iv).toNat)
  case atStart => exact ⟨0, es, Nat.zero_le _, rfl, rfl, HST, Lib.hid (ext_refl _)⟩
  case round =>
    obtain ⟨k, er, hk, rfl, rfl, HA, HX⟩ := hrel
    have hsr := HX.out.size
    have hb0 : w.heap.size < wr.heap.size := by omega
    have hb1 : w.heap.size + 1 < wr.heap.size := by omega
    have x0 := (HX.out.cells _ _ (show w.heap.size + 1 < w2.heap.size by omega)).trans r0
    have x1 := (HX.out.cells _ _ (show w.heap.size + 1 < w2.heap.size by omega)).trans r1
    have xf0 := (HX.out.frz _ _ (show w.heap.size + 1 < w2.heap.size by omega)).trans rf0
    have xf1 := (HX.out.frz _ _ (show w.heap.size + 1 < w2.heap.size by omega)).trans rf1
    have t0 := (HX.out.cells _ _ (show w.heap.size < w2.heap.size by omega)).trans s0
    have t1 := (HX.out.cells _ _ (show w.heap.size < w2.heap.size by omega)).trans s1
    have HXW := Lib.hid (ext_trans HW2.out HX.out)
    clear r0 r1 rf0 rf1 s0 s1
    have hgo : (k < l.length ∧ er = 0) ∨ (l.length ≤ k ∨ er ≠ 0) := by omega
    rcases hgo with ⟨hlt, rfl⟩ | hend
    · obtain ⟨b, o, d, b1, m1, e1, b2, m2, e2, sx, rfl, hb, ek, hde, y0, y1, y2, y3, y4, y5, y6⟩ := deed_at (HL.out wr HXW.out) hlt
      have HDE := Lib.hid (fun (W : World) (hx : Ext wr W) => checkDeedP_any (gDe.ext hde hx))
      have HN := Lib.hid (allAt_next HA.out ek)
      have g1 : decide ((k : Int) < (l.length : Int)) = true := decide_eq_true (by omega)
      have g2 : decide (k < l.length) = true := decide_eq_true (by omega)
      generalize checkD d = ed at *
      clear ek hde HA
      go_wp2_with (first | (go_at_call 39; go_must ((with_reducible refine (HDE.out _ extA).mono ?_); rintro e w5 ⟨rfl, hx5⟩; have HX5 := Lib.hid (show Ext wr w5 from ext_trans extA hx5); clear hx5)))
      go_roundw
      case rel => exact ⟨k + 1, ed, by omega, by go_num, rfl, HN, Lib.hid (ext_trans HX.out HX5.out)⟩
      case measure => simp [intOf]; omega
    · have he := allAt_end HA.out hend
      have HE := Lib.hid he
      by_cases h0 : er = 0
      · subst h0
        have hkl : l.length ≤ k := by omega
        have g1 : decide ((k : Int) < (l.length : Int)) = false := decide_eq_false (by omega)
        have g2 : decide (k < l.length) = false := decide_eq_false (by omega)
        have HR := Lib.hid (fun (W : World) (hx : Ext wr W) => HRW.out W (ext_trans HXW.out hx) he)
        obtain ⟨_, _, hN, hS⟩ := allE_run he
        clear hend he
        cases hdo : doDs s l with
        | none =>
          rw [hdo] at HR
          have HNN := Lib.hid (hN hdo)
          clear hN hS hdo
          go_wp2_with (first | (go_at_call 51; go_must ((with_reducible refine (HR.out _ extA).mono ?_); rintro e w5 ⟨rfl, hx5⟩; have hs5 := hx5.size; (try simp at hs5); have hl5 : w.heap.size + 1 < w5.heap.size := (by omega); have hl5n : ¬ w.heap.size + 1 = w5.heap.size := (by omega); have hl5n' : ¬ w5.heap.size = w.heap.size + 1 := (by omega); have z0 := (hx5.cells (w.heap.size + 1) 0 (by first | omega | (simp <;> omega))).trans (show _ = some (.slice none 0 0) by first | assumption | go_simp); have z1 := (hx5.cells (w.heap.size + 1) 1 (by first | omega | (simp <;> omega))).trans (show _ = some (.slice none 0 0) by first | assumption | go_simp); have zf0 := (hx5.frz (w.heap.size + 1) 0 (by first | omega | (simp <;> omega))).trans (show _ = false by first | assumption | go_simp); have zf1 := (hx5.frz (w.heap.size + 1) 1 (by first | omega | (simp <;> omega))).trans (show _ = false by first | assumption | go_simp); have HX5 := Lib.hid (show Ext w w5 from ext_trans (ext_trans HXW.out extA) hx5);  clear hx5)))
          refine bodyPost_ret (v := .tuple #[.agg #[.slice none 0 0, .slice none 0 0], .int .i64 2]) (by simp [results, Tryz.results8, go_sem, z0, z1, hl5]) rfl (by rw [HNN.out.1, HNN.out.2]; exact ⟨_, _, rfl, ownSt_nil, (by repeat (first | (with_reducible exact HX5.out) | (with_reducible refine ext_alloc ?_ _) | (with_reducible refine ext_set ?_ (by first | (show w.heap.size ≤ w.heap.size + 1; omega) | (show w.heap.size ≤ w5.heap.size; omega)) _)))⟩)
        | some t =>
          rw [hdo] at HR
          have HNN := Lib.hid (hS t hdo)
          clear hN hS hdo
          go_wp2_with (first | (go_at_call 51; go_must ((with_reducible refine (HR.out _ extA).mono ?_); rintro e w5 ⟨v5, u5, rfl, ho5, hx5⟩; have hs5 := hx5.size; (try simp at hs5); have hl5 : w.heap.size + 1 < w5.heap.size := (by omega); have hl5n : ¬ w.heap.size + 1 = w5.heap.size := (by omega); have hl5n' : ¬ w5.heap.size = w.heap.size + 1 := (by omega); have z0 := (hx5.cells (w.heap.size + 1) 0 (by first | omega | (simp <;> omega))).trans (show _ = some (.slice none 0 0) by first | assumption | go_simp); have z1 := (hx5.cells (w.heap.size + 1) 1 (by first | omega | (simp <;> omega))).trans (show _ = some (.slice none 0 0) by first | assumption | go_simp); have zf0 := (hx5.frz (w.heap.size + 1) 0 (by first | omega | (simp <;> omega))).trans (show _ = false by first | assumption | go_simp); have zf1 := (hx5.frz (w.heap.size + 1) 1 (by first | omega | (simp <;> omega))).trans (show _ = false by first | assumption | go_simp); have HX5 := Lib.hid (show Ext w w5 from ext_trans (ext_trans HXW.out extA) hx5); obtain ⟨a5, n5, c5, rfl⟩ := osl_slice ho5.1; obtain ⟨a6, n6, c6, rfl⟩ := osl_slice ho5.2.1; have HO5 := Lib.hid ho5; have hwr5 : wr.heap.size ≤ w5.heap.size := (by omega); clear ho5; clear hx5)))
          refine bodyPost_ret (v := .tuple #[.agg #[.slice a5 n5 c5, .slice a6 n6 c6], .int .i64 0]) (by simp [results, Tryz.results8, go_sem, z0, z1, hl5]) rfl (by rw [HNN.out.1, HNN.out.2]; exact ⟨_, _, rfl, ownSt_keep HO5.out (by omega) (by repeat (first | (with_reducible exact keeps_refl) | (with_reducible refine keeps_alloc ?_ _) | (with_reducible refine keeps_set ?_ (fun hq h => by first | (have h' : wr.heap.size ≤ w.heap.size + 1 := h; omega) | (have h' : w5.heap.size < w5.heap.size := hq; omega)) _))), (by repeat (first | (with_reducible exact HX5.out) | (with_reducible refine ext_alloc ?_ _) | (with_reducible refine ext_set ?_ (by first | (show w.heap.size ≤ w.heap.size + 1; omega) | (show w.heap.size ≤ w5.heap.size; omega)) _)))⟩)
      · have g3 : (er == 0) = false := by simpa using h0
        have g4 : (er != 0) = true := by simpa using h0
        obtain ⟨f1, f2⟩ := allE_err (s := s) (l := l) (by rw [he]; exact h0)
        have HNN := Lib.hid (And.intro (f1.trans he) f2)
        by_cases hlt : k < l.length
        · have g1 : decide ((k : Int) < (l.length : Int)) = true := decide_eq_true (by omega)
          have g2 : decide (k < l.length) = true := decide_eq_true (by omega)
          clear he f1 f2 hend
          go_wp2_with fail
          refine bodyPost_ret (v := .tuple #[.agg #[.slice none 0 0, .slice none 0 0], .int .i64 er]) (by simp [results, Tryz.results8, go_sem, x0, x1]) rfl (by rw [HNN.out.1, HNN.out.2]; exact ⟨_, _, rfl, ownSt_nil, (by repeat (first | (with_reducible exact HXW.out) | (with_reducible refine ext_alloc ?_ _) | (with_reducible refine ext_set ?_ (by first | (show w.heap.size ≤ w.heap.size + 1; omega) | (show w.heap.size ≤ w5.heap.size; omega)) _)))⟩)
        · have g1 : decide ((k : Int) < (l.length : Int)) = false := decide_eq_false (by omega)
          have g2 : decide (k < l.length) = false := decide_eq_false (by omega)
          clear he f1 f2 hend
          go_wp2_with fail
          refine bodyPost_ret (v := .tuple #[.agg #[.slice none 0 0, .slice none 0 0], .int .i64 er]) (by simp [results, Tryz.results8, go_sem, x0, x1]) rfl (by rw [HNN.out.1, HNN.out.2]; exact ⟨_, _, rfl, ownSt_nil, (by repeat (first | (with_reducible exact HXW.out) | (with_reducible refine ext_alloc ?_ _) | (with_reducible refine ext_set ?_ (by first | (show w.heap.size ≤ w.heap.size + 1; omega) | (show w.heap.size ≤ w5.heap.size; omega)) _)))⟩)
end Go.Proofs.YtfgfdohppgoajaaGreat
/- A deed, with errors. -/
namespace Go.Proofs.YtfgfdohppgoajaaGreat
open Go Go.RowKit Go.BigFrame Cp

theorem rangeAt7 {w : World} {b o : Nat} {x0 x1 x2 x3 x4 x5 x6 : Value} (h0 : w.cell? ⟨b, o, none⟩ = some x0) (h1 : w.cell? ⟨b, o + 1, none⟩ = some x1) (h2 : w.cell? ⟨b, o + 2, none⟩ = some x2) (h3 : w.cell? ⟨b, o + 3, none⟩ = some x3)
    (h4 : w.cell? ⟨b, o + 4, none⟩ = some x4) (h5 : w.cell? ⟨b, o + 5, none⟩ = some x5) (h6 : w.cell? ⟨b, o + 6, none⟩ = some x6) : w.rangeAt b o [x0, x1, x2, x3, x4, x5, x6] := by
  intro j v hv
  match j, hv with
  | 0, hv => exact (by simpa using hv : x0 = v) ▸ h0
  | 1, hv => exact (by simpa using hv : x1 = v) ▸ h1
  | 2, hv => exact (by simpa using hv : x2 = v) ▸ h2
  | 3, hv => exact (by simpa using hv : x3 = v) ▸ h3
  | 4, hv => exact (by simpa using hv : x4 = v) ▸ h4
  | 5, hv => exact (by simpa using hv : x5 = v) ▸ h5
  | 6, hv => exact (by simpa using hv : x6 = v) ▸ h6
theorem de_one {F : Nat → Prop} {W : World} {r : Nat} {c0 c1 c2 c3 c4 c5 c6 : Value} {d : De} (h : RDe F W [c0, c1, c2, c3, c4, c5, c6] d) (h0 : W.cell? ⟨r, 0, none⟩ = some c0) (h1 : W.cell? ⟨r, 1, none⟩ = some c1) (h2 : W.cell? ⟨r, 2, none⟩ = some c2) (h3 : W.cell? ⟨r, 3, none⟩ = some c3)
    (h4 : W.cell? ⟨r, 4, none⟩ = some c4) (h5 : W.cell? ⟨r, 5, none⟩ = some c5) (h6 : W.cell? ⟨r, 6, none⟩ = some c6) :
    RSl RDe 7 (fun j => F j ∨ j = r) W (.slice (some ⟨r, 0, none⟩) 1 1) [d] :=
  rsl_of_range (o := 0) (xs := [c0, c1, c2, c3, c4, c5, c6]) (rangeAt7 h0 h1 h2 h3 h4 h5 h6) (chunks_one rfl (gDe.more (fun _ h _ => Or.inl h) h)) (Or.inr rfl) (World.block_lt_of_cell? _ _ h0) (Nat.le_refl _) (by unfold maxLen; omega)
set_option maxRecDepth 100000 in
set_option maxHeartbeats 4000000 in
theorem do_any {F G : Nat → Prop} {w : World} {cs ds : List Value} {s : St} {d : De} (h : RSt F w cs s) (hd : RDe G w ds d) :
    Calls Tryz.prog 37 #[.agg cs.toArray, .agg ds.toArray] w (IsStE (allV s [d]) (allE s [d]) w) := by
  have HAL := Lib.hid (fun (W : World) (hx : Ext w W) (x : Value) (F' : Nat → Prop) (hl : RSl RDe 7 F' W x [d]) => all_any (gSt.ext h hx) hl)
  have HDE := Lib.hid (fun (W : World) (hx : Ext w W) => gDe.ext hd hx)
  obtain ⟨v, u, rfl, h1, h2⟩ := h
  obtain ⟨v0, x0, u0, rfl, _, k1, _, k3, k4, _, _⟩ := hd
  obtain ⟨a0, n0, c0, rfl⟩ := h1.slice
  obtain ⟨a1, n1, c1, rfl⟩ := h2.slice
  obtain ⟨a2, n2, c2, rfl⟩ := k1.slice
  obtain ⟨a3, n3, c3, rfl⟩ := k4.slice
  obtain ⟨sx, rfl, _⟩ := tx_bytes k3
  generalize allV s [d] = tv at *
  generalize allE s [d] = er at *
  clear h1 h2 k1 k3 k4
  go_enter Tryz.func37, Tryz.ntmps37
  go_wp2_with (first | (go_at_call 8; go_must ((with_reducible refine (HAL.out _ extA _ _ (de_one (HDE.out _ extA) (by first | assumption | go_simp) (by first | assumption | go_simp) (by first | assumption | go_simp) (by first | assumption | go_simp) (by first | assumption | go_simp) (by first | assumption | go_simp) (by first | assumption | go_simp))).mono ?_); rintro e w5 ⟨v5, u5, rfl, ho5, hx5⟩; obtain ⟨a5, n5, c5, rfl⟩ := osl_slice ho5.1; obtain ⟨a6, n6, c6, rfl⟩ := osl_slice ho5.2.1; have hs5 := hx5.size; (try simp at hs5); have hl5 : w.heap.size + 2 < w5.heap.size := (by omega); have z0 := (hx5.cells (w.heap.size + 2) 0 (by first | omega | (simp <;> omega))).trans (show _ = some (.slice none 0 0) by first | assumption | go_simp); have z1 := (hx5.cells (w.heap.size + 2) 1 (by first | omega | (simp <;> omega))).trans (show _ = some (.slice none 0 0) by first | assumption | go_simp); have zf0 := (hx5.frz (w.heap.size + 2) 0 (by first | omega | (simp <;> omega))).trans (show _ = false by first | assumption | go_simp); have zf1 := (hx5.frz (w.heap.size + 2) 1 (by first | omega | (simp <;> omega))).trans (show _ = false by first | assumption | go_simp); have HX5 := Lib.hid (show Ext w w5 from ext_trans extA hx5); have HO5 : Hid (OwnSt (w.heap.size + 4) tv w5 (.slice a5 n5 c5) (.slice a6 n6 c6)) := Lib.hid (ownSt_keep ho5 (by first | omega | (simp <;> omega)) keeps_refl); clear hx5 ho5)))
  refine bodyPost_ret (v := .tuple #[.agg #[.slice a5 n5 c5, .slice a6 n6 c6], .int .i64 er]) (by simp [results, Tryz.results37, go_sem, z0, z1, hl5]) rfl ⟨_, _, rfl, ?_, ?_⟩
  · exact ownSt_keep HO5.out (by omega) (by repeat (first | (with_reducible exact keeps_refl) | (with_reducible refine keeps_alloc ?_ _) | (with_reducible refine keeps_set ?_ (fun hq h => by first | (have h' : w.heap.size + 4 ≤ w.heap.size + 1 + 1 := h; omega) | (have h' : w.heap.size + 4 ≤ w.heap.size + 2 := h; omega) | (have h' : w5.heap.size < w5.heap.size := hq; omega)) _)))
  · exact (by repeat (first | (with_reducible exact HX5.out) | (with_reducible refine ext_alloc ?_ _) | (with_reducible refine ext_set ?_ (by first | (show w.heap.size ≤ w.heap.size + 2; omega) | (show w.heap.size ≤ w5.heap.size; omega)) _)))
end Go.Proofs.YtfgfdohppgoajaaGreat
/- A part of a slice; deeds that take, and their list. -/
namespace Go.Proofs.YtfgfdohppgoajaaGreat
open Go Go.RowKit Go.BigFrame Cp

theorem info_deF : (Tryz.prog.info? 66).map (fun i => (i.zero, i.size, i.bytes)) = some (some (.agg #[.int .i64 0, .slice none 0 0, .int .i64 0, .string ⟨#[]⟩, .slice none 0 0, .int .i64 0, .int .i64 0]), 7, 96) := by kernel_rfl
theorem one_deF : ∀ F w cs (y : De), RDe F w cs y → ∀ u ∈ cs, u.oneCell' = true := by
  rintro F w cs y ⟨v, s, u, rfl, _, h1, _, h3, h4, _, _⟩ x hx
  obtain ⟨a1, n1, c1, rfl⟩ := h1.slice
  obtain ⟨a2, n2, c2, rfl⟩ := h4.slice
  obtain ⟨t, rfl, _⟩ := tx_bytes h3
  simp at hx
  rcases hx with rfl | rfl | rfl | rfl | rfl | rfl | rfl <;> rfl
theorem deF_len {a b : Nat} (h : a ≤ 300) (hb : b ≤ 1) : a + b ≤ maxLen := Nat.le_trans (by omega : a + b ≤ 301) (by unfold maxLen; decide)
theorem deF_byt {a b : Nat} (h : a ≤ 300) (hb : b ≤ 1) : (a + b) * 96 ≤ 140737488355328 := by omega
theorem rsl_sub {α : Type} {R : Rd α} {sz : Nat} {F : Nat → Prop} {w : World} {l : List α} {a : Option Addr} {n c : Nat} (h : RSl R sz F w (.slice a n c) l) {i j : Nat} (hij : i ≤ j) (hj : j ≤ n) :
    RSl R sz F w (.slice (if c = i then a else a.map (·.add (i * sz))) (j - i) (c - i)) ((l.drop i).take (j - i)) := by
  obtain ⟨a', cap, e, h1, h2, h3⟩ := h
  injection e with e1 e2 e3
  subst e1; subst e2; subst e3
  refine ⟨_, _, by rw [List.length_take, List.length_drop, Nat.min_eq_left (by omega)], by rw [List.length_take, List.length_drop]; omega, by omega, fun hne => ?_⟩
  have hlt : i < j := by
    rcases Nat.lt_or_ge i j with h | h
    · exact h
    · exact absurd (by rw [show j - i = 0 by omega]; rfl) hne
  rw [if_neg (by omega)]
  obtain ⟨b', o', e', hF, hl, hx⟩ := h3 (fun e => by subst e; simp at hj; omega)
  subst e'
  refine ⟨b', o' + i * sz, by simp [Addr.add], hF, hl, fun t x ht => ?_⟩
  rw [List.getElem?_take] at ht
  split at ht
  · rw [List.getElem?_drop] at ht
    obtain ⟨cs, c1, c2, c3⟩ := hx (i + t) x ht
    exact ⟨cs, c1, by rw [Nat.add_mul, ← Nat.add_assoc] at c2; exact c2, c3⟩
  · cases ht
/-- the deed that takes a run's signs; one that puts a run -/
def takeDe (r : Rn) : De := ⟨2, (([], 0), []), r.1, (r.2.length : Int)⟩
def putDe (r : Rn) : De := ⟨1, r, ([], 0), 0⟩
def cutE (s : St) (a n : Int) : Int := if checkS s ≠ 0 then checkS s else if insideB a n s.1.length = false then 3 else 0
def cutL (s : St) (a n : Nat) : List At := (s.1.drop a).take n
def cutV (s : St) (a n : Int) : List De := if cutE s a n = 0 then (runsA (cutL s a.toNat n.toNat)).map takeDe else []
theorem inside_nat {a n : Int} {k : Nat} (h : insideB a n k = true) : ∃ i j : Nat, a = (i : Int) ∧ n = (j : Int) ∧ i + j ≤ k := by
  unfold insideB at h
  simp only [Bool.and_eq_true, decide_eq_true_eq] at h
  exact ⟨a.toNat, n.toNat, by omega, by omega, by omega⟩
theorem sortedA_suf : ∀ {l : List At} (i : Nat), SortedA l → SortedA (l.drop i)
  | _, 0, h => h
  | [], _ + 1, h => by simpa using h
  | _ :: r, i + 1, h => sortedA_suf i (sortedA_tail h)
theorem sortedA_pre {l : List At} (i : Nat) (h : SortedA l) : SortedA (l.take i) := by
  refine sortedA_idx fun j a b ha hb => ?_
  rw [List.getElem?_take] at ha hb
  split at ha
  · split at hb
    · exact sortedA_lt h (j + 1) a b j (by omega) ha hb
    · cases hb
  · cases ha
theorem cutL_right {s : St} (h : checkS s = 0) (a n : Nat) : checkA (cutL s a n) = 0 := by
  have hf := checkS_fit.1 h
  have hl : (cutL s a n).length ≤ 300 := by unfold cutL; rw [List.length_take, List.length_drop]; have := hf.2.1; omega
  have hr : RightA (cutL s a n) := ⟨sortedA_pre _ (sortedA_suf _ hf.1.1.1), fun x hx => hf.1.1.2 x (List.mem_of_mem_drop (List.mem_of_mem_take hx))⟩
  rw [right_to hr, if_neg (by omega)]
theorem runsA_few (l : List At) : (runsA l).length ≤ l.length := by
  have := runsA_len l l.length
  rwa [List.take_length] at this
def IsDesE (l : List De) (er : Int) (w : World) (e : Ending) (w' : World) : Prop := ∃ v, e = .returned (.tuple #[v, .int .i64 er]) ∧ RSl RDe 7 (fun j => w.heap.size ≤ j) w' v l ∧ Ext w w'
theorem takeDe_is {F : Nat → Prop} {w : World} {v : Value} {p : List Stp} {c : Int} {t : Tx} (h : RSl RStp 2 F w v p) (hc : I64 c) (ht : t.length ≤ 60) :
    RDe F w [.int .i64 2, .slice none 0 0, .int .i64 0, .string ⟨#[]⟩, v, .int .i64 c, .int .i64 (t.length : Int)] (takeDe ((p, c), t)) :=
  ⟨_, _, _, rfl, i64_small (by simp [takeDe]) (by simp [takeDe]), RSl.nil_ (Nat.zero_le _), i64_small (by simp [takeDe]) (by simp [takeDe]), ⟨rfl, by simp [takeDe]⟩, h, hc, i64_small (by simp [takeDe]) (by simp only [takeDe]; omega)⟩
theorem map_snoc {α β : Type} {l : List α} {k : Nat} {a : α} {f : α → β} (h : l[k]? = some a) : (l.take (k + 1)).map f = (l.take k).map f ++ [f a] := by
  obtain ⟨h1, h2⟩ := List.getElem?_eq_some_iff.1 h
  rw [List.take_succ_eq_append_getElem h1, h2, List.map_append]; rfl
end Go.Proofs.YtfgfdohppgoajaaGreat
/- What deeds that take a part of the text do to it. -/
namespace Go.Proofs.YtfgfdohppgoajaaGreat
open Go Cp

theorem checkD_take {r : Rn} (h : checkR r = 0) : checkD (takeDe r) = 0 := by
  obtain ⟨h1, h2, h3, _, h5⟩ := checkR_parts h
  have hl : r.2.length ≠ 0 := fun e => h2 (List.eq_nil_of_length_eq_zero e)
  rw [checkD_take_next (d := takeDe r) (by simp [takeDe]) rfl h1 rfl rfl (by simp only [takeDe]; omega)]
  exact h5
theorem takes_right {s : St} {a n : Int} (h : cutE s a n = 0) : ∀ d ∈ cutV s a n, checkD d = 0 := by
  have hs : checkS s = 0 := by
    unfold cutE at h
    by_cases e : checkS s = 0
    · exact e
    · rw [if_pos e] at h; exact absurd h e
  unfold cutV
  rw [if_pos h]
  intro d hd
  obtain ⟨r, hr, rfl⟩ := List.mem_map.1 hd
  exact checkD_take ((runs_back (cutL_right hs _ _)).2.1 r hr)
theorem takeA_app (l : List At) (a b : List Mk) : takeA (takeA l a) b = takeA l (a ++ b) := by
  unfold takeA
  rw [List.filter_filter]
  apply List.filter_congr
  intro x _
  simp [hasG, Bool.and_comm]
theorem doDs_takes : ∀ {rs : List Rn} {s t : St}, doDs s (rs.map takeDe) = some t → t.1 = takeA s.1 ((rs.flatMap atomsR).map (·.1))
  | [], s, t, h => by
    have : s = t := by simpa [doDs] using h
    rw [← this]; exact (takeA_nil s.1).symm
  | r :: rs, s, t, h => by
    have e : doDs s ((r :: rs).map takeDe) = if tooMuch (doDeed s (takeDe r)) = true then none else doDs (doDeed s (takeDe r)) (rs.map takeDe) := rfl
    rw [e] at h
    split at h
    · cases h
    · have h1 := doDs_takes h
      have h2 : (doDeed s (takeDe r)).1 = takeA s.1 (marksN r.1 r.2.length) := by
        unfold doDeed marksD
        simp [takeDe]
      rw [h1, h2, takeA_app, List.flatMap_cons, List.map_append, atoms_marks]
theorem sorted_apart : ∀ {m b : List At}, SortedA (m ++ b) → ∀ x ∈ m, ∀ y ∈ b, x.1 ≠ y.1
  | [], _, _, _, hx, _, _ => by simp at hx
  | c :: m, b, h, x, hx, y, hy => by
    rcases List.mem_cons.1 hx with rfl | hx
    · intro e
      have := sortedA_head h y (List.mem_append.2 (.inr hy))
      rw [e, ordM_zero.2 rfl] at this
      omega
    · exact sorted_apart (sortedA_tail h) x hx y hy
theorem takeA_mid {a m b : List At} (h : SortedA (a ++ m ++ b)) : takeA (a ++ m ++ b) (m.map (·.1)) = a ++ b := by
  have h1 := sorted_apart h
  have h2 : SortedA (a ++ (m ++ b)) := by rw [← List.append_assoc]; exact h
  have h3 := sorted_apart h2
  have no : ∀ {x : At}, (∀ y ∈ m, y.1 ≠ x.1) → hasG (m.map (·.1)) x.1 = false := fun {x} k => by
    rw [← Bool.not_eq_true, hasG_iff]
    intro hm
    obtain ⟨y, hy, e⟩ := List.mem_map.1 hm
    exact k y hy e
  unfold takeA
  rw [List.filter_append, List.filter_append]
  rw [List.filter_eq_self.2 (fun x hx => by rw [no (fun y hy e => h3 x hx y (List.mem_append.2 (.inl hy)) e.symm)]; rfl)]
  rw [List.filter_eq_nil_iff.2 (fun x hx => by rw [hasG_iff.2 (List.mem_map.2 ⟨x, hx, rfl⟩)]; simp)]
  rw [List.filter_eq_self.2 (fun x hx => by rw [no (fun y hy e => h1 y (List.mem_append.2 (.inr hy)) x hx e)]; rfl)]
  rw [List.append_nil]
theorem cut_inside {s : St} {a n : Int} (h : cutE s a n = 0) : FitS s ∧ ∃ i j : Nat, a = (i : Int) ∧ n = (j : Int) ∧ i + j ≤ s.1.length := by
  unfold cutE at h
  by_cases e : checkS s = 0
  · rw [if_neg (by simpa using e)] at h
    by_cases g : insideB a n s.1.length = false
    · rw [if_pos g] at h; cases h
    · exact ⟨checkS_fit.1 e, inside_nat (by simpa using g)⟩
  · rw [if_pos e] at h; exact absurd h e
/-- what is cut is gone, all else as it stood -/
theorem cut_facts {s t : St} {a n : Int} (h : cutE s a n = 0) (k : doDs s (cutV s a n) = some t) : ∃ i j : Nat, a = (i : Int) ∧ n = (j : Int) ∧ i + j ≤ s.1.length ∧ t.1 = s.1.take i ++ s.1.drop (i + j) := by
  obtain ⟨hf, i, j, rfl, rfl, hij⟩ := cut_inside h
  have e := checkS_fit.2 hf
  refine ⟨i, j, rfl, rfl, hij, ?_⟩
  unfold cutV at k
  rw [if_pos h] at k
  have h1 := doDs_takes k
  rw [Int.toNat_natCast, Int.toNat_natCast, (runs_back (cutL_right e _ _)).1] at h1
  have hd : s.1 = s.1.take i ++ cutL s i j ++ s.1.drop (i + j) := by
    unfold cutL
    rw [List.append_assoc, ← List.drop_drop, List.take_append_drop, List.take_append_drop]
  have hs : SortedA s.1 := (checkS_fit.1 e).1.1.1
  rw [h1]
  rw [hd] at hs
  have := takeA_mid hs
  rw [← hd] at this
  exact this
end Go.Proofs.YtfgfdohppgoajaaGreat
