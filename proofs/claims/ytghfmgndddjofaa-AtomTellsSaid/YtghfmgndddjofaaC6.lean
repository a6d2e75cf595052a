/- One atom more, by the document. -/
import Derived.Test.YtghfmgndddjofaaC1
import Derived.Test.YtghfmgndddjofaaPM
import Derived.Test.YtghfmgndddjofaaW4
set_option linter.unusedVariables false
set_option linter.unusedSimpArgs false
namespace Go.Proofs.Ytghfmgndddjofaa
open Go Go.RowKit Go.BigFrame Cp

def IsAtAny (l : List At) (w : World) (e : Ending) (w' : World) : Prop := ∃ v, e = .returned v ∧ RSl RAt 3 (fun _ => True) w' v l ∧ Ext w w'
theorem same_at {w wr : World} {b o b' o' k : Nat} {l : List At} {p p' : List Stp} {d d' : Int} {s s' : UInt8} {ap ap' : Option Addr} {cp cp' : Nat} (h : (some ⟨b, o, none⟩ : Option Addr) = some ⟨b', o', none⟩) (hb : b' < w.heap.size) (hx : Ext w wr)
    (e : l[k]? = some ((p, d), s)) (e' : l[k]? = some ((p', d'), s')) (y : wr.cell? ⟨b, o + k * 3, none⟩ = some (.slice ap p.length cp)) (g : w.cell? ⟨b', o' + k * 3, none⟩ = some (.slice ap' p'.length cp')) : p = p' ∧ ap = ap' ∧ cp = cp' := by
  simp at h
  obtain ⟨rfl, rfl⟩ := h
  rw [e] at e'
  rw [hx.cells _ _ hb, g] at y
  simp at e' y
  exact ⟨e'.1.1, y.1.symm, y.2.2.symm⟩
theorem sortedA_drop : ∀ (k : Nat) {l : List At}, SortedA l → SortedA (l.drop k)
  | 0, _, h => by simpa using h
  | k + 1, [], _ => by simp [SortedA]
  | k + 1, x :: r, h => by simpa using sortedA_drop k (sortedA_tail h)
set_option maxRecDepth 100000 in
set_option maxHeartbeats 4000000 in
theorem docPut_any {F G : Nat → Prop} {w : World} {v : Value} {ds : List Value} {l : List At} {a : At} (h : RSl RAt 3 F w v l) (ka : RAt G w ds a) (hs : SortedA l) (hl : l.length ≤ 900) :
    Calls Try.prog 92 #[v, .agg ds.toArray] w (IsAtAny (putA l a) w) := by
  have h0 : RSl RAt 3 (fun j => j < w.heap.size) w v l := RSl.more gAt (fun _ _ hk => hk) h
  clear h
  have HL := Lib.hid (fun (W : World) (hx : Ext w W) => h0.ext gAt hx)
  have HSO := Lib.hid hs
  obtain ⟨a0, n0, c0, rfl⟩ := h0.slice
  obtain rfl : n0 = l.length := h0.len.1
  obtain ⟨u, rfl, hu, hui⟩ := ka
  obtain ⟨⟨pa, da⟩, sa⟩ := a
  simp only at hu hui ⊢
  have hu' : RSl RStp 2 (fun j => j < w.heap.size) w u pa := RSl.more gStp (fun _ _ hk => hk) hu
  have HPA := Lib.hid (fun (W : World) (hx : Ext w W) => hu'.ext gStp hx)
  have HIA := Lib.hid hui
  obtain ⟨aa, na, ca, rfl⟩ := hu'.slice
  obtain rfl : na = pa.length := hu'.len.1
  obtain ⟨i0, hi0, hz0, hz1', hz2⟩ := info_parts c_info
  have HJ := Lib.hid hi0
  have HZ0 := Lib.hid hz0
  have HZ1 := Lib.hid hz1'
  have HZ2 := Lib.hid hz2
  clear h0 hu hu' hui hs hi0 hz0 hz1' hz2
  go_enter Try.func92, Try.ntmps92
  go_wp2
  refine wp_name (fun wb ewb => ?_)
  have b0 : wb.cell? ⟨w.heap.size, 0, none⟩ = some (.slice aa pa.length ca) := by rw [ewb]; go_simp
  have b1 : wb.cell? ⟨w.heap.size, 1, none⟩ = some (.int .i64 da) := by rw [ewb]; go_simp
  have b2 : wb.cell? ⟨w.heap.size, 2, none⟩ = some (.int .u8 sa.toNat) := by rw [ewb]; go_simp
  have hbb : w.heap.size < wb.heap.size := by rw [ewb]; simp
  have hwb : Ext w wb := by rw [ewb]; exact (by repeat (first | (with_reducible exact ext_refl _) | (with_reducible assumption) | (with_reducible refine ext_drew ?_) | (with_reducible refine ext_drewN ?_ _) | (with_reducible refine ext_alloc ?_ _) | (with_reducible refine ext_set ?_ (by first | omega | (simp <;> omega)) _) | (with_reducible refine ext_trans ?_ (by with_reducible assumption))))
  have HWB := Lib.hid hwb
  clear ewb hwb
  go_loopw [5, 6, 7] (fun ov pv iv wr => ∃ (k : Nat) (out : List At) (put : Bool), k ≤ l.length ∧ iv = .int .i64 k ∧ pv = .bool put ∧ Hid (OSl RAt 3 77 wb.heap.size (fun _ => True) wr ov out) ∧ Hid (DocPut l ((pa, da), sa) k out put) ∧ Ext wb wr) (fun _ _ iv _ => l.length - (intOf iv).toNat)
  case atStart => exact ⟨0, [], false, Nat.zero_le _, rfl, rfl, Lib.hid osl_nil, Lib.hid (docPut_start _ _), ext_refl _⟩
  case round =>
    obtain ⟨k, out, put, hk, rfl, rfl, HO, HD, hx⟩ := hrel
    have x0 := (hx.cells w.heap.size 0 hbb).trans b0
    have x1 := (hx.cells w.heap.size 1 hbb).trans b1
    have x2 := (hx.cells w.heap.size 2 hbb).trans b2
    have hzr := hx.size
    have HXB := Lib.hid hx
    have HX := Lib.hid (ext_trans HWB.out hx)
    have hbr : w.heap.size < wr.heap.size := by omega
    clear hx b0 b1 b2
    obtain ⟨a5, n5, c5, rfl⟩ := osl_slice HO.out
    obtain rfl : n5 = out.length := (osl_len HO.out).1
    have hol : out.length ≤ 1000 := by have := HD.out.2.2.1; omega
    have hol2 : (out ++ [((pa, da), sa)]).length ≤ 1000 := by rw [List.length_append, List.length_singleton]; have := HD.out.2.2.1; omega
    have HOL := Lib.hid (osl_lt HO.out)
    by_cases hlt : k < l.length
    · obtain ⟨b, o, p, d, s, ap, cp, rfl, hb, ek, ick, hpp, y0, y1, y2⟩ := atm_at (HL.out wr HX.out) hlt
      have HPP := Lib.hid (fun (W : World) (hx : Ext wr W) => hpp.ext gStp hx)
      have HIC := Lib.hid ick
      have HOR := Lib.hid (fun (W : World) (hx : Ext wr W) => orderOf_any (rmk_of' (hpp.ext gStp hx) ick) (rmk_of' (HPA.out _ (ext_trans HX.out hx)) HIA.out))
      have hnb : ¬ b = wr.heap.size := by omega
      have hnw : ¬ w.heap.size = wr.heap.size := by omega
      have hnw' : ¬ wr.heap.size = w.heap.size := by omega
      obtain ⟨b', o', p', d', s', ap', cp', eb', hb0, ek', _, hppw, g0, _⟩ := atm_at (HL.out w (ext_refl _)) hlt
      have hpe : p = p' ∧ ap = ap' ∧ cp = cp' := same_at eb' hb0 HX.out ek ek' y0 g0
      obtain ⟨rfl, rfl, rfl⟩ := hpe
      clear ick hpp eb' ek' g0
      cases put with
      | true =>
        obtain ⟨h1, h2⟩ := docPut_put HD.out ek
        have HE := Lib.hid h2
        simp only at h1
        rw [h1] at HOR
        clear ek h1 h2 HD
        have HMK1 : True := trivial
        have HMK2 : True := trivial
        go_wp2_with (first
          | (go_at_call 91; go_must ((with_reducible refine (HOR.out _ (by repeat (first | (with_reducible exact ext_refl _) | (with_reducible assumption) | (with_reducible refine ext_drew ?_) | (with_reducible refine ext_drewN ?_ _) | (with_reducible refine ext_alloc ?_ _) | (with_reducible refine ext_set ?_ (by first | omega | (simp <;> omega)) _) | (with_reducible refine ext_trans ?_ (by with_reducible assumption))))).mono ?_); rintro e w2 ⟨rfl, hx2⟩; have hz2 := hx2.size; (try simp at hz2); have hb2 : wr.heap.size < w2.heap.size := (by omega); have q0 := (hx2.cells (w.heap.size) (0) (by first | omega | (simp <;> omega))).trans (show _ = some (.slice aa pa.length ca) by first | assumption | go_simp); have q1 := (hx2.cells (w.heap.size) (1) (by first | omega | (simp <;> omega))).trans (show _ = some (.int .i64 da) by first | assumption | go_simp); have q2 := (hx2.cells (w.heap.size) (2) (by first | omega | (simp <;> omega))).trans (show _ = some (.int .u8 sa.toNat) by first | assumption | go_simp); have q3 := (hx2.cells (wr.heap.size) (0) (by first | omega | (simp <;> omega))).trans (show _ = some (.slice ap p.length cp) by first | assumption | go_simp); have q4 := (hx2.cells (wr.heap.size) (1) (by first | omega | (simp <;> omega))).trans (show _ = some (.int .i64 d) by first | assumption | go_simp); have q5 := (hx2.cells (wr.heap.size) (2) (by first | omega | (simp <;> omega))).trans (show _ = some (.int .u8 s.toNat) by first | assumption | go_simp); have qf0 := (hx2.frz (wr.heap.size) (2) (by first | omega | (simp <;> omega))).trans (show _ = false by first | assumption | go_simp)))
          | (at_builtin; (clear HMK1); go_must (refine wpList_appAll gAt rfl (.tmp 45) (.tmp 47) 59 rfl wb.heap.size 77 i0 _ 3 40 Try.underlying59 HJ.out HZ0.out HZ1.out HZ2.out rfl (by omega) (F := fun _ => True) (G := fun j => j < w.heap.size ∨ wr.heap.size ≤ j) (.slice a5 out.length c5) out rfl (osl_ext gAt HO.out (by repeat (first | (with_reducible exact ext_refl _) | (with_reducible assumption) | (with_reducible refine ext_drew ?_) | (with_reducible refine ext_drewN ?_ _) | (with_reducible refine ext_alloc ?_ _) | (with_reducible refine ext_set ?_ (by first | omega | (simp <;> omega)) _) | (with_reducible refine ext_trans ?_ (by with_reducible assumption))))) _ [((p, d), s)] rfl (c_one (RSl.more gStp (fun j hj _ => Or.inl hj) (HPP.out _ (by repeat (first | (with_reducible exact ext_refl _) | (with_reducible assumption) | (with_reducible refine ext_drew ?_) | (with_reducible refine ext_drewN ?_ _) | (with_reducible refine ext_alloc ?_ _) | (with_reducible refine ext_set ?_ (by first | omega | (simp <;> omega)) _) | (with_reducible refine ext_trans ?_ (by with_reducible assumption)))))) HIC.out (by first | assumption | go_simp) (by first | assumption | go_simp) (by first | assumption | go_simp) (Or.inr (by first | omega | (simp <;> omega))) (by first | omega | (simp <;> omega))) one_at (fun j hj _ => ⟨trivial, fun e => by have := HOL.out j e.symm; rcases hj with h | h <;> omega⟩) (c_len hol) (c_byt hol) (by first | omega | (simp <;> omega)) ?_; intro v9 w9 hown9 hg9 hat9; obtain ⟨a9, n9, c9, rfl⟩ := osl_slice hown9; have hx9 : Ext wb w9 := ext_grow (ext_trans HXB.out (by repeat (first | (with_reducible exact ext_refl _) | (with_reducible assumption) | (with_reducible refine ext_drew ?_) | (with_reducible refine ext_drewN ?_ _) | (with_reducible refine ext_alloc ?_ _) | (with_reducible refine ext_set ?_ (by first | omega | (simp <;> omega)) _) | (with_reducible refine ext_trans ?_ (by with_reducible assumption))))) hg9 (fun j hj => (HOL.out j hj).1); have HV9 := Lib.hid hown9)))
        go_roundw
        case rel => exact ⟨k + 1, _, true, by omega, by go_num, rfl, HV9, HE, hx9⟩
        case measure => simp [intOf]; omega
      | false =>
        rcases ordM_range (p, d) (pa, da) with h1 | h1 | h1
        · have HE := Lib.hid (docPut_less HD.out ek h1)
          rw [h1] at HOR
          clear ek h1 HD
          have HMK1 : True := trivial
          have HMK2 : True := trivial
          go_wp2_with (first
            | (go_at_call 91; go_must ((with_reducible refine (HOR.out _ (by repeat (first | (with_reducible exact ext_refl _) | (with_reducible assumption) | (with_reducible refine ext_drew ?_) | (with_reducible refine ext_drewN ?_ _) | (with_reducible refine ext_alloc ?_ _) | (with_reducible refine ext_set ?_ (by first | omega | (simp <;> omega)) _) | (with_reducible refine ext_trans ?_ (by with_reducible assumption))))).mono ?_); rintro e w2 ⟨rfl, hx2⟩; have hz2 := hx2.size; (try simp at hz2); have hb2 : wr.heap.size < w2.heap.size := (by omega); have q0 := (hx2.cells (w.heap.size) (0) (by first | omega | (simp <;> omega))).trans (show _ = some (.slice aa pa.length ca) by first | assumption | go_simp); have q1 := (hx2.cells (w.heap.size) (1) (by first | omega | (simp <;> omega))).trans (show _ = some (.int .i64 da) by first | assumption | go_simp); have q2 := (hx2.cells (w.heap.size) (2) (by first | omega | (simp <;> omega))).trans (show _ = some (.int .u8 sa.toNat) by first | assumption | go_simp); have q3 := (hx2.cells (wr.heap.size) (0) (by first | omega | (simp <;> omega))).trans (show _ = some (.slice ap p.length cp) by first | assumption | go_simp); have q4 := (hx2.cells (wr.heap.size) (1) (by first | omega | (simp <;> omega))).trans (show _ = some (.int .i64 d) by first | assumption | go_simp); have q5 := (hx2.cells (wr.heap.size) (2) (by first | omega | (simp <;> omega))).trans (show _ = some (.int .u8 s.toNat) by first | assumption | go_simp); have qf0 := (hx2.frz (wr.heap.size) (2) (by first | omega | (simp <;> omega))).trans (show _ = false by first | assumption | go_simp)))
            | (at_builtin; (clear HMK1); go_must (refine wpList_appAll gAt rfl (.tmp 45) (.tmp 47) 59 rfl wb.heap.size 77 i0 _ 3 40 Try.underlying59 HJ.out HZ0.out HZ1.out HZ2.out rfl (by omega) (F := fun _ => True) (G := fun j => j < w.heap.size ∨ wr.heap.size ≤ j) (.slice a5 out.length c5) out rfl (osl_ext gAt HO.out (by repeat (first | (with_reducible exact ext_refl _) | (with_reducible assumption) | (with_reducible refine ext_drew ?_) | (with_reducible refine ext_drewN ?_ _) | (with_reducible refine ext_alloc ?_ _) | (with_reducible refine ext_set ?_ (by first | omega | (simp <;> omega)) _) | (with_reducible refine ext_trans ?_ (by with_reducible assumption))))) _ [((p, d), s)] rfl (c_one (RSl.more gStp (fun j hj _ => Or.inl hj) (HPP.out _ (by repeat (first | (with_reducible exact ext_refl _) | (with_reducible assumption) | (with_reducible refine ext_drew ?_) | (with_reducible refine ext_drewN ?_ _) | (with_reducible refine ext_alloc ?_ _) | (with_reducible refine ext_set ?_ (by first | omega | (simp <;> omega)) _) | (with_reducible refine ext_trans ?_ (by with_reducible assumption)))))) HIC.out (by first | assumption | go_simp) (by first | assumption | go_simp) (by first | assumption | go_simp) (Or.inr (by first | omega | (simp <;> omega))) (by first | omega | (simp <;> omega))) one_at (fun j hj _ => ⟨trivial, fun e => by have := HOL.out j e.symm; rcases hj with h | h <;> omega⟩) (c_len hol) (c_byt hol) (by first | omega | (simp <;> omega)) ?_; intro v9 w9 hown9 hg9 hat9; obtain ⟨a9, n9, c9, rfl⟩ := osl_slice hown9; have hx9 : Ext wb w9 := ext_grow (ext_trans HXB.out (by repeat (first | (with_reducible exact ext_refl _) | (with_reducible assumption) | (with_reducible refine ext_drew ?_) | (with_reducible refine ext_drewN ?_ _) | (with_reducible refine ext_alloc ?_ _) | (with_reducible refine ext_set ?_ (by first | omega | (simp <;> omega)) _) | (with_reducible refine ext_trans ?_ (by with_reducible assumption))))) hg9 (fun j hj => (HOL.out j hj).1); have HV9 := Lib.hid hown9)))
          go_roundw
          case rel => exact ⟨k + 1, _, false, by omega, by go_num, rfl, HV9, HE, hx9⟩
          case measure => simp [intOf]; omega
        · have HE := Lib.hid (docPut_same (sortedA_drop k HSO.out) HD.out ek h1)
          rw [h1] at HOR
          simp only at HE
          by_cases hsg : sa < s
          · have t1 : decide (sa.toNat < s.toNat) = true := decide_eq_true (UInt8.lt_iff_toNat_lt.1 hsg)
            have t2 : decide (((sa.toNat : Nat) : Int) < ((s.toNat : Nat) : Int)) = true := decide_eq_true (Int.ofNat_lt.2 (UInt8.lt_iff_toNat_lt.1 hsg))
            rw [show mnS s sa = sa from if_pos hsg] at HE
            clear ek h1 HD hsg
            have HMK1 : True := trivial
            have HMK2 : True := trivial
            go_wp2_with (first
              | (go_at_call 91; go_must ((with_reducible refine (HOR.out _ (by repeat (first | (with_reducible exact ext_refl _) | (with_reducible assumption) | (with_reducible refine ext_drew ?_) | (with_reducible refine ext_drewN ?_ _) | (with_reducible refine ext_alloc ?_ _) | (with_reducible refine ext_set ?_ (by first | omega | (simp <;> omega)) _) | (with_reducible refine ext_trans ?_ (by with_reducible assumption))))).mono ?_); rintro e w2 ⟨rfl, hx2⟩; have hz2 := hx2.size; (try simp at hz2); have hb2 : wr.heap.size < w2.heap.size := (by omega); have q0 := (hx2.cells (w.heap.size) (0) (by first | omega | (simp <;> omega))).trans (show _ = some (.slice aa pa.length ca) by first | assumption | go_simp); have q1 := (hx2.cells (w.heap.size) (1) (by first | omega | (simp <;> omega))).trans (show _ = some (.int .i64 da) by first | assumption | go_simp); have q2 := (hx2.cells (w.heap.size) (2) (by first | omega | (simp <;> omega))).trans (show _ = some (.int .u8 sa.toNat) by first | assumption | go_simp); have q3 := (hx2.cells (wr.heap.size) (0) (by first | omega | (simp <;> omega))).trans (show _ = some (.slice ap p.length cp) by first | assumption | go_simp); have q4 := (hx2.cells (wr.heap.size) (1) (by first | omega | (simp <;> omega))).trans (show _ = some (.int .i64 d) by first | assumption | go_simp); have q5 := (hx2.cells (wr.heap.size) (2) (by first | omega | (simp <;> omega))).trans (show _ = some (.int .u8 s.toNat) by first | assumption | go_simp); have qf0 := (hx2.frz (wr.heap.size) (2) (by first | omega | (simp <;> omega))).trans (show _ = false by first | assumption | go_simp)))
              | (at_builtin; (clear HMK1); go_must (refine wpList_appAll gAt rfl (.tmp 45) (.tmp 47) 59 rfl wb.heap.size 77 i0 _ 3 40 Try.underlying59 HJ.out HZ0.out HZ1.out HZ2.out rfl (by omega) (F := fun _ => True) (G := fun j => j < w.heap.size ∨ wr.heap.size ≤ j) (.slice a5 out.length c5) out rfl (osl_ext gAt HO.out (by repeat (first | (with_reducible exact ext_refl _) | (with_reducible assumption) | (with_reducible refine ext_drew ?_) | (with_reducible refine ext_drewN ?_ _) | (with_reducible refine ext_alloc ?_ _) | (with_reducible refine ext_set ?_ (by first | omega | (simp <;> omega)) _) | (with_reducible refine ext_trans ?_ (by with_reducible assumption))))) _ [((p, d), sa)] rfl (c_one (RSl.more gStp (fun j hj _ => Or.inl hj) (HPP.out _ (by repeat (first | (with_reducible exact ext_refl _) | (with_reducible assumption) | (with_reducible refine ext_drew ?_) | (with_reducible refine ext_drewN ?_ _) | (with_reducible refine ext_alloc ?_ _) | (with_reducible refine ext_set ?_ (by first | omega | (simp <;> omega)) _) | (with_reducible refine ext_trans ?_ (by with_reducible assumption)))))) HIC.out (by first | assumption | go_simp) (by first | assumption | go_simp) (by first | assumption | go_simp) (Or.inr (by first | omega | (simp <;> omega))) (by first | omega | (simp <;> omega))) one_at (fun j hj _ => ⟨trivial, fun e => by have := HOL.out j e.symm; rcases hj with h | h <;> omega⟩) (c_len hol) (c_byt hol) (by first | omega | (simp <;> omega)) ?_; intro v9 w9 hown9 hg9 hat9; obtain ⟨a9, n9, c9, rfl⟩ := osl_slice hown9; have hx9 : Ext wb w9 := ext_grow (ext_trans HXB.out (by repeat (first | (with_reducible exact ext_refl _) | (with_reducible assumption) | (with_reducible refine ext_drew ?_) | (with_reducible refine ext_drewN ?_ _) | (with_reducible refine ext_alloc ?_ _) | (with_reducible refine ext_set ?_ (by first | omega | (simp <;> omega)) _) | (with_reducible refine ext_trans ?_ (by with_reducible assumption))))) hg9 (fun j hj => (HOL.out j hj).1); have HV9 := Lib.hid hown9)))
            go_roundw
            case rel => exact ⟨k + 1, _, true, by omega, by go_num, rfl, HV9, HE, hx9⟩
            case measure => simp [intOf]; omega
          · have t1 : decide (sa.toNat < s.toNat) = false := decide_eq_false (fun h9 => hsg (UInt8.lt_iff_toNat_lt.2 h9))
            have t2 : decide (((sa.toNat : Nat) : Int) < ((s.toNat : Nat) : Int)) = false := decide_eq_false (fun h9 => hsg (UInt8.lt_iff_toNat_lt.2 (Int.ofNat_lt.1 h9)))
            rw [show mnS s sa = s from if_neg hsg] at HE
            clear ek h1 HD hsg
            have HMK1 : True := trivial
            have HMK2 : True := trivial
            go_wp2_with (first
              | (go_at_call 91; go_must ((with_reducible refine (HOR.out _ (by repeat (first | (with_reducible exact ext_refl _) | (with_reducible assumption) | (with_reducible refine ext_drew ?_) | (with_reducible refine ext_drewN ?_ _) | (with_reducible refine ext_alloc ?_ _) | (with_reducible refine ext_set ?_ (by first | omega | (simp <;> omega)) _) | (with_reducible refine ext_trans ?_ (by with_reducible assumption))))).mono ?_); rintro e w2 ⟨rfl, hx2⟩; have hz2 := hx2.size; (try simp at hz2); have hb2 : wr.heap.size < w2.heap.size := (by omega); have q0 := (hx2.cells (w.heap.size) (0) (by first | omega | (simp <;> omega))).trans (show _ = some (.slice aa pa.length ca) by first | assumption | go_simp); have q1 := (hx2.cells (w.heap.size) (1) (by first | omega | (simp <;> omega))).trans (show _ = some (.int .i64 da) by first | assumption | go_simp); have q2 := (hx2.cells (w.heap.size) (2) (by first | omega | (simp <;> omega))).trans (show _ = some (.int .u8 sa.toNat) by first | assumption | go_simp); have q3 := (hx2.cells (wr.heap.size) (0) (by first | omega | (simp <;> omega))).trans (show _ = some (.slice ap p.length cp) by first | assumption | go_simp); have q4 := (hx2.cells (wr.heap.size) (1) (by first | omega | (simp <;> omega))).trans (show _ = some (.int .i64 d) by first | assumption | go_simp); have q5 := (hx2.cells (wr.heap.size) (2) (by first | omega | (simp <;> omega))).trans (show _ = some (.int .u8 s.toNat) by first | assumption | go_simp); have qf0 := (hx2.frz (wr.heap.size) (2) (by first | omega | (simp <;> omega))).trans (show _ = false by first | assumption | go_simp)))
              | (at_builtin; (clear HMK1); go_must (refine wpList_appAll gAt rfl (.tmp 45) (.tmp 47) 59 rfl wb.heap.size 77 i0 _ 3 40 Try.underlying59 HJ.out HZ0.out HZ1.out HZ2.out rfl (by omega) (F := fun _ => True) (G := fun j => j < w.heap.size ∨ wr.heap.size ≤ j) (.slice a5 out.length c5) out rfl (osl_ext gAt HO.out (by repeat (first | (with_reducible exact ext_refl _) | (with_reducible assumption) | (with_reducible refine ext_drew ?_) | (with_reducible refine ext_drewN ?_ _) | (with_reducible refine ext_alloc ?_ _) | (with_reducible refine ext_set ?_ (by first | omega | (simp <;> omega)) _) | (with_reducible refine ext_trans ?_ (by with_reducible assumption))))) _ [((p, d), s)] rfl (c_one (RSl.more gStp (fun j hj _ => Or.inl hj) (HPP.out _ (by repeat (first | (with_reducible exact ext_refl _) | (with_reducible assumption) | (with_reducible refine ext_drew ?_) | (with_reducible refine ext_drewN ?_ _) | (with_reducible refine ext_alloc ?_ _) | (with_reducible refine ext_set ?_ (by first | omega | (simp <;> omega)) _) | (with_reducible refine ext_trans ?_ (by with_reducible assumption)))))) HIC.out (by first | assumption | go_simp) (by first | assumption | go_simp) (by first | assumption | go_simp) (Or.inr (by first | omega | (simp <;> omega))) (by first | omega | (simp <;> omega))) one_at (fun j hj _ => ⟨trivial, fun e => by have := HOL.out j e.symm; rcases hj with h | h <;> omega⟩) (c_len hol) (c_byt hol) (by first | omega | (simp <;> omega)) ?_; intro v9 w9 hown9 hg9 hat9; obtain ⟨a9, n9, c9, rfl⟩ := osl_slice hown9; have hx9 : Ext wb w9 := ext_grow (ext_trans HXB.out (by repeat (first | (with_reducible exact ext_refl _) | (with_reducible assumption) | (with_reducible refine ext_drew ?_) | (with_reducible refine ext_drewN ?_ _) | (with_reducible refine ext_alloc ?_ _) | (with_reducible refine ext_set ?_ (by first | omega | (simp <;> omega)) _) | (with_reducible refine ext_trans ?_ (by with_reducible assumption))))) hg9 (fun j hj => (HOL.out j hj).1); have HV9 := Lib.hid hown9)))
            go_roundw
            case rel => exact ⟨k + 1, _, true, by omega, by go_num, rfl, HV9, HE, hx9⟩
            case measure => simp [intOf]; omega
        · have HE := Lib.hid (docPut_new (sortedA_drop k HSO.out) HD.out ek h1)
          rw [h1] at HOR
          have HPQ := Lib.hid (fun (W : World) (hx : Ext w W) => hppw.ext gStp hx)
          clear ek h1 HD
          have HMK1 : True := trivial
          have HMK2 : True := trivial
          go_wp2_with (first
            | (go_at_call 91; go_must ((with_reducible refine (HOR.out _ (by repeat (first | (with_reducible exact ext_refl _) | (with_reducible assumption) | (with_reducible refine ext_drew ?_) | (with_reducible refine ext_drewN ?_ _) | (with_reducible refine ext_alloc ?_ _) | (with_reducible refine ext_set ?_ (by first | omega | (simp <;> omega)) _) | (with_reducible refine ext_trans ?_ (by with_reducible assumption))))).mono ?_); rintro e w2 ⟨rfl, hx2⟩; have hz2 := hx2.size; (try simp at hz2); have hb2 : wr.heap.size < w2.heap.size := (by omega); have q0 := (hx2.cells (w.heap.size) (0) (by first | omega | (simp <;> omega))).trans (show _ = some (.slice aa pa.length ca) by first | assumption | go_simp); have q1 := (hx2.cells (w.heap.size) (1) (by first | omega | (simp <;> omega))).trans (show _ = some (.int .i64 da) by first | assumption | go_simp); have q2 := (hx2.cells (w.heap.size) (2) (by first | omega | (simp <;> omega))).trans (show _ = some (.int .u8 sa.toNat) by first | assumption | go_simp); have q3 := (hx2.cells (wr.heap.size) (0) (by first | omega | (simp <;> omega))).trans (show _ = some (.slice ap p.length cp) by first | assumption | go_simp); have q4 := (hx2.cells (wr.heap.size) (1) (by first | omega | (simp <;> omega))).trans (show _ = some (.int .i64 d) by first | assumption | go_simp); have q5 := (hx2.cells (wr.heap.size) (2) (by first | omega | (simp <;> omega))).trans (show _ = some (.int .u8 s.toNat) by first | assumption | go_simp); have qf0 := (hx2.frz (wr.heap.size) (2) (by first | omega | (simp <;> omega))).trans (show _ = false by first | assumption | go_simp)))
            | (at_builtin; (clear HMK1); go_must (refine wpList_appAll gAt rfl (.tmp 31) (.tmp 33) 59 rfl wb.heap.size 77 i0 _ 3 40 Try.underlying59 HJ.out HZ0.out HZ1.out HZ2.out rfl (by omega) (F := fun _ => True) (G := fun j => j < w.heap.size ∨ wr.heap.size ≤ j) (.slice a5 out.length c5) out rfl (osl_ext gAt HO.out (by repeat (first | (with_reducible exact ext_refl _) | (with_reducible assumption) | (with_reducible refine ext_drew ?_) | (with_reducible refine ext_drewN ?_ _) | (with_reducible refine ext_alloc ?_ _) | (with_reducible refine ext_set ?_ (by first | omega | (simp <;> omega)) _) | (with_reducible refine ext_trans ?_ (by with_reducible assumption))))) _ [((pa, da), sa)] rfl (c_one (RSl.more gStp (fun j hj _ => Or.inl hj) (HPA.out _ (ext_trans HX.out (by repeat (first | (with_reducible exact ext_refl _) | (with_reducible assumption) | (with_reducible refine ext_drew ?_) | (with_reducible refine ext_drewN ?_ _) | (with_reducible refine ext_alloc ?_ _) | (with_reducible refine ext_set ?_ (by first | omega | (simp <;> omega)) _) | (with_reducible refine ext_trans ?_ (by with_reducible assumption))))))) HIA.out (by first | assumption | go_simp) (by first | assumption | go_simp) (by first | assumption | go_simp) (Or.inr (by first | omega | (simp <;> omega))) (by first | omega | (simp <;> omega))) one_at (fun j hj _ => ⟨trivial, fun e => by have := HOL.out j e.symm; rcases hj with h | h <;> omega⟩) (c_len hol) (c_byt hol) (by first | omega | (simp <;> omega)) ?_; intro v8 w8 hown8 hg8 hat8; obtain ⟨a8, n8, c8, rfl⟩ := osl_slice hown8; have HOL8 := Lib.hid (osl_lt hown8); have hx8 : Ext wb w8 := ext_grow (ext_trans HXB.out (by repeat (first | (with_reducible exact ext_refl _) | (with_reducible assumption) | (with_reducible refine ext_drew ?_) | (with_reducible refine ext_drewN ?_ _) | (with_reducible refine ext_alloc ?_ _) | (with_reducible refine ext_set ?_ (by first | omega | (simp <;> omega)) _) | (with_reducible refine ext_trans ?_ (by with_reducible assumption))))) hg8 (fun j hj => (HOL.out j hj).1); have hz8 := hg8.size; (try simp at hz8); have hx8w : Ext w w8 := ext_trans HWB.out hx8; have hb8 : wr.heap.size < w8.heap.size := (by omega); have r0 := hg8.cell (a := ⟨wr.heap.size, 0, none⟩) (v := .slice ap p.length cp) (by first | assumption | go_simp) (fun e => absurd (HOL.out _ e.symm).2 (Nat.lt_irrefl _)); have r1 := hg8.cell (a := ⟨wr.heap.size, 1, none⟩) (v := .int .i64 d) (by first | assumption | go_simp) (fun e => absurd (HOL.out _ e.symm).2 (Nat.lt_irrefl _)); have r2 := hg8.cell (a := ⟨wr.heap.size, 2, none⟩) (v := .int .u8 s.toNat) (by first | assumption | go_simp) (fun e => absurd (HOL.out _ e.symm).2 (Nat.lt_irrefl _)); have HV8 := Lib.hid hown8; clear hown8 hg8 hat8))
            | (at_builtin; (clear HMK2); go_must (refine wpList_appAll gAt rfl (.tmp 45) (.tmp 47) 59 rfl wb.heap.size 77 i0 _ 3 40 Try.underlying59 HJ.out HZ0.out HZ1.out HZ2.out rfl (by omega) (F := fun _ => True) (G := fun j => j < w.heap.size ∨ w8.heap.size ≤ j) (.slice a8 n8 c8) (out ++ [((pa, da), sa)]) rfl (osl_ext gAt HV8.out (by repeat (first | (with_reducible exact ext_refl _) | (with_reducible assumption) | (with_reducible refine ext_drew ?_) | (with_reducible refine ext_drewN ?_ _) | (with_reducible refine ext_alloc ?_ _) | (with_reducible refine ext_set ?_ (by first | omega | (simp <;> omega)) _) | (with_reducible refine ext_trans ?_ (by with_reducible assumption))))) _ [((p, d), s)] rfl (c_one (RSl.more gStp (fun j hj _ => Or.inl hj) ((HPQ.out _ (ext_trans hx8w (by repeat (first | (with_reducible exact ext_refl _) | (with_reducible assumption) | (with_reducible refine ext_drew ?_) | (with_reducible refine ext_drewN ?_ _) | (with_reducible refine ext_alloc ?_ _) | (with_reducible refine ext_set ?_ (by first | omega | (simp <;> omega)) _) | (with_reducible refine ext_trans ?_ (by with_reducible assumption)))))))) HIC.out (by first | assumption | go_simp) (by first | assumption | go_simp) (by first | assumption | go_simp) (Or.inr (by first | omega | (simp <;> omega))) (by first | omega | (simp <;> omega))) one_at (fun j hj _ => ⟨trivial, fun e => by have := HOL8.out j e.symm; rcases hj with h | h <;> omega⟩) (c_len hol2) (c_byt hol2) (by first | omega | (simp <;> omega)) ?_; intro v9 w9 hown9 hg9 hat9; obtain ⟨a9, n9, c9, rfl⟩ := osl_slice hown9; have hx9 : Ext wb w9 := ext_grow (ext_trans hx8 (by repeat (first | (with_reducible exact ext_refl _) | (with_reducible assumption) | (with_reducible refine ext_drew ?_) | (with_reducible refine ext_drewN ?_ _) | (with_reducible refine ext_alloc ?_ _) | (with_reducible refine ext_set ?_ (by first | omega | (simp <;> omega)) _) | (with_reducible refine ext_trans ?_ (by with_reducible assumption))))) hg9 (fun j hj => (HOL8.out j hj).1); have HV9 := Lib.hid hown9)))
          go_roundw
          case rel => exact ⟨k + 1, _, true, by omega, by go_num, rfl, HV9, HE, hx9⟩
          case measure => simp [intOf]; omega
    · have hkl : k = l.length := by omega
      subst hkl
      have HEN := Lib.hid (docPut_end HD.out)
      cases put with
      | true =>
        have HF := Lib.hid (show RSl RAt 3 (fun _ => True) wr (.slice a5 out.length c5) (putA l ((pa, da), sa)) by
          have h9 := osl_rsl gAt HO.out (G := fun _ => True) (fun _ _ _ => trivial) (fun _ _ => trivial)
          have e9 := HEN.out
          rw [if_pos rfl] at e9
          rw [← e9]; exact h9)
        go_wp2
        go_ret
        exact ⟨_, rfl, HF.out, HX.out⟩
      | false =>
        have e9 := HEN.out
        rw [if_neg (by simp)] at e9
        have HE9 := Lib.hid e9
        clear e9 HEN HD
        have HMK1 : True := trivial
        have HMK2 : True := trivial
        go_wp2_with (first
          | (at_builtin; (clear HMK1); go_must (refine wpList_appAll gAt rfl (.tmp 51) (.tmp 53) 59 rfl wb.heap.size 77 i0 _ 3 40 Try.underlying59 HJ.out HZ0.out HZ1.out HZ2.out rfl (by omega) (F := fun _ => True) (G := fun j => j < w.heap.size ∨ wr.heap.size ≤ j) (.slice a5 out.length c5) out rfl (osl_ext gAt HO.out (by repeat (first | (with_reducible exact ext_refl _) | (with_reducible assumption) | (with_reducible refine ext_drew ?_) | (with_reducible refine ext_drewN ?_ _) | (with_reducible refine ext_alloc ?_ _) | (with_reducible refine ext_set ?_ (by first | omega | (simp <;> omega)) _) | (with_reducible refine ext_trans ?_ (by with_reducible assumption))))) _ [((pa, da), sa)] rfl (c_one (RSl.more gStp (fun j hj _ => Or.inl hj) (HPA.out _ (ext_trans HX.out (by repeat (first | (with_reducible exact ext_refl _) | (with_reducible assumption) | (with_reducible refine ext_drew ?_) | (with_reducible refine ext_drewN ?_ _) | (with_reducible refine ext_alloc ?_ _) | (with_reducible refine ext_set ?_ (by first | omega | (simp <;> omega)) _) | (with_reducible refine ext_trans ?_ (by with_reducible assumption))))))) HIA.out (by first | assumption | go_simp) (by first | assumption | go_simp) (by first | assumption | go_simp) (Or.inr (by first | omega | (simp <;> omega))) (by first | omega | (simp <;> omega))) one_at (fun j hj _ => ⟨trivial, fun e => by have := HOL.out j e.symm; rcases hj with h | h <;> omega⟩) (c_len hol) (c_byt hol) (by first | omega | (simp <;> omega)) ?_; intro v9 w9 hown9 hg9 hat9; obtain ⟨a9, n9, c9, rfl⟩ := osl_slice hown9; have hx9 : Ext wb w9 := ext_grow (ext_trans HXB.out (by repeat (first | (with_reducible exact ext_refl _) | (with_reducible assumption) | (with_reducible refine ext_drew ?_) | (with_reducible refine ext_drewN ?_ _) | (with_reducible refine ext_alloc ?_ _) | (with_reducible refine ext_set ?_ (by first | omega | (simp <;> omega)) _) | (with_reducible refine ext_trans ?_ (by with_reducible assumption))))) hg9 (fun j hj => (HOL.out j hj).1); have HV9 := Lib.hid hown9)))
        go_ret
        exact ⟨_, rfl, by rw [← HE9.out]; exact osl_rsl gAt HV9.out (G := fun _ => True) (fun _ _ _ => trivial) (fun _ _ => trivial), ext_trans HWB.out hx9⟩
end Go.Proofs.Ytghfmgndddjofaa
