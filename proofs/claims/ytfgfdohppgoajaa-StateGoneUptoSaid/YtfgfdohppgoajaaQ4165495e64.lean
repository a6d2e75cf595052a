/- StateGone, walked, where the deeds are not too many. -/
import Derived.Test.YtfgfdohppgoajaaQca6d6e627c
import Derived.Test.YtfgfdohppgoajaaQf78320ba61
import Derived.Test.YtfgfdohppgoajaaQed9260ba11
import Derived.Test.YtfgfdohppgoajaaQ032f3a0a26
set_option linter.unusedVariables false
set_option linter.unusedSimpArgs false
namespace Go.Proofs.Ytfgfdohppgoajaa
open Go Go.RowKit Go.BigFrame Cp

theorem rst_ownG {B : Nat} {t : St} {w : World} {v u : Value} (h : OwnSt B t w v u) : RSt (fun j => B ≤ j) w [v, u] t := ⟨v, u, rfl, (ownSt_rsl h).1, (ownSt_rsl h).2⟩
theorem allV_errG {s : St} {l : List De} (h : ¬ allE s l = 0) : allV s l = ([], []) := by unfold allV; rw [if_neg h]
theorem mk_len {a b : Nat} (h : a ≤ 62914560) (hb : b ≤ 60) : a + b ≤ maxLen := Nat.le_trans (by omega : a + b ≤ 62914620) (by unfold maxLen; decide)
theorem mk_byt {a b : Nat} (h : a ≤ 62914560) (hb : b ≤ 60) : (a + b) * 32 ≤ 140737488355328 := by omega
theorem marksD_few {d : De} (h : checkD d = 0) : (marksD d).length ≤ 60 := by
  unfold marksD
  by_cases h1 : d.kind = 1
  · rw [if_pos h1, marksN_len]; exact (checkR_parts (deed_put h h1).1).2.2.1
  · rw [if_neg h1, marksN_len]
    obtain ⟨_, _, ⟨n, hn, _, _⟩, _⟩ := deed_take h h1
    rw [hn]; simp; omega
/-- the marks of what has been put by so many deeds -/
def PutsAt (l : List De) (k : Nat) (pm : List Mk) : Prop := pm.length ≤ 60 * k ∧ ∀ d ∈ l.take k, d.kind = 1 → ∀ m ∈ marksD d, m ∈ pm
theorem puts_next {l : List De} {k : Nat} {pm : List Mk} {d : De} (h : PutsAt l k pm) (hd : l[k]? = some d) (hc : checkD d = 0) : (d.kind = 1 → PutsAt l (k + 1) (pm ++ marksD d)) ∧ (¬ d.kind = 1 → PutsAt l (k + 1) pm) := by
  obtain ⟨h1, h2⟩ := List.getElem?_eq_some_iff.1 hd
  have h3 := marksD_few hc
  refine ⟨fun hk => ⟨by rw [List.length_append]; have := h.1; omega, fun e he hke m hm => ?_⟩, fun hk => ⟨by have := h.1; omega, fun e he hke m hm => ?_⟩⟩
  · rw [List.take_succ_eq_append_getElem h1, h2] at he
    rcases List.mem_append.1 he with he | he
    · exact List.mem_append.2 (.inl (h.2 e he hke m hm))
    · have : e = d := by simpa using he
      subst this
      exact List.mem_append.2 (.inr hm)
  · rw [List.take_succ_eq_append_getElem h1, h2] at he
    rcases List.mem_append.1 he with he | he
    · exact h.2 e he hke m hm
    · have : e = d := by simpa using he
      subst this
      exact absurd hke hk
set_option maxRecDepth 100000 in
set_option maxHeartbeats 4000000 in
theorem stateGone_any {F G : Nat → Prop} {w : World} {cs : List Value} {s : St} {x : Value} {l : List De} (h : RSt F w cs s) (hl : RSl RDe 7 G w x l) (hl1 : l.length ≤ 1048576) :
    Calls Try.prog 5 #[.agg cs.toArray, x] w fun e w' => e = .returned (.bool true) ∧ Ext w w' := by
  have hl' : RSl RDe 7 (fun j => j < w.heap.size) w x l := RSl.more gDe (fun _ _ hk => hk) hl
  have HAL := Lib.hid (fun (W : World) (hx : Ext w W) => all_any (gSt.ext h hx) (hl.ext gDe hx))
  have HL := Lib.hid (fun (W : World) (hx : Ext w W) => hl'.ext gDe hx)
  obtain ⟨v, u, rfl, h1, h2⟩ := h
  obtain ⟨la, lg⟩ := s
  simp only at h1 h2
  have HLA := Lib.hid (fun (W : World) (hx : Ext w W) => h1.ext gAt hx)
  have HLG := Lib.hid (fun (W : World) (hx : Ext w W) => h2.ext gMk hx)
  obtain ⟨a0, n0, c0, rfl⟩ := h1.slice
  obtain ⟨a1, n1, c1, rfl⟩ := h2.slice
  obtain ⟨a2, n2, c2, rfl⟩ := hl.slice
  obtain rfl : n0 = la.length := h1.len.1
  obtain rfl : n1 = lg.length := h2.len.1
  obtain rfl : n2 = l.length := hl.len.1
  clear h1 h2 hl hl'
  by_cases h0 : allE (la, lg) l = 0
  · have HGO := Lib.hid (fun (m : Mk) (hm : m ∈ lg) => allV_gone h0 (m := m) hm)
    have HWA := Lib.hid (fun (m : Mk) (hm : hasM (allV (la, lg) l).1 m = true) => allV_was h0 hm)
    have hdl := (allE_ok.1 h0).2.1
    have hfs := (allE_ok.1 h0).1
    have HDL := Lib.hid hdl
    have hlg6 : lg.length ≤ 600 := hfs.2.2
    have hft := allV_fit h0
    rw [h0] at HAL
    generalize allV (la, lg) l = t1 at *
    obtain ⟨ta, tg⟩ := t1
    have hta3 : ta.length ≤ 300 := hft.2.1
    simp only at HGO HWA
    obtain ⟨i0, hi0, hz0, hz1', hz2⟩ := info_parts cm_info
    have HJ := Lib.hid hi0
    have HZ0 := Lib.hid hz0
    have HZ1 := Lib.hid hz1'
    have HZ2 := Lib.hid hz2
    clear h0 hdl hfs hft hi0 hz0 hz1' hz2
    go_enter Try.func5, Try.ntmps5
    go_wp2_with (first | (go_at_call 13; go_must ((with_reducible refine (stateBegun_any _).mono ?_); rintro e w1 ⟨rfl, hx1⟩; have hs1 := hx1.size; (try simp at hs1); have l1 : w.heap.size < w1.heap.size := (by omega); have p0 := (hx1.cells (w.heap.size) 0 (by first | omega | (simp <;> omega))).trans (show _ = some (.slice a0 la.length c0) by first | assumption | go_simp); have p1 := (hx1.cells (w.heap.size) 1 (by first | omega | (simp <;> omega))).trans (show _ = some (.slice a1 lg.length c1) by first | assumption | go_simp); have HX1 := Lib.hid (show Ext w w1 from ext_trans (by repeat (first | (with_reducible exact ext_refl _) | (with_reducible assumption) | (with_reducible refine ext_drew ?_) | (with_reducible refine ext_drewN ?_ _) | (with_reducible refine ext_alloc ?_ _) | (with_reducible refine ext_set ?_ (by first | omega | (simp <;> omega)) _) | (with_reducible refine ext_trans ?_ (by with_reducible assumption)))) hx1))) | (go_at_call 11; go_must ((with_reducible refine (HAL.out _ (ext_trans HX1.out (by repeat (first | (with_reducible exact ext_refl _) | (with_reducible assumption) | (with_reducible refine ext_drew ?_) | (with_reducible refine ext_drewN ?_ _) | (with_reducible refine ext_alloc ?_ _) | (with_reducible refine ext_set ?_ (by first | omega | (simp <;> omega)) _) | (with_reducible refine ext_trans ?_ (by with_reducible assumption)))))).mono ?_); rintro e w2 ⟨v2, u2, rfl, ho2, hx2⟩; obtain ⟨a4, n4, c4, rfl⟩ := osl_slice ho2.1; obtain ⟨a5, n5, c5, rfl⟩ := osl_slice ho2.2.1; obtain rfl : n4 = ta.length := (osl_len ho2.1).1; have HA2 := Lib.hid (ownSt_rsl ho2).1; have HG2 := Lib.hid (ownSt_rsl ho2).2; have hs2 := hx2.size; (try simp at hs2); have l2 : w.heap.size < w2.heap.size := (by omega); have q0 := (hx2.cells (w.heap.size) 0 (by first | omega | (simp <;> omega))).trans (show _ = some (.slice a0 la.length c0) by first | assumption | go_simp); have q1 := (hx2.cells (w.heap.size) 1 (by first | omega | (simp <;> omega))).trans (show _ = some (.slice a1 lg.length c1) by first | assumption | go_simp); have HX2 := Lib.hid (show Ext w w2 from ext_trans (ext_trans HX1.out (by repeat (first | (with_reducible exact ext_refl _) | (with_reducible assumption) | (with_reducible refine ext_drew ?_) | (with_reducible refine ext_drewN ?_ _) | (with_reducible refine ext_alloc ?_ _) | (with_reducible refine ext_set ?_ (by first | omega | (simp <;> omega)) _) | (with_reducible refine ext_trans ?_ (by with_reducible assumption))))) hx2); clear ho2)))
    refine wp_name (fun wb ewb => ?_)
    have HWB := Lib.hid (show Ext w wb by rw [ewb]; exact ext_trans HX2.out (by repeat (first | (with_reducible exact ext_refl _) | (with_reducible assumption) | (with_reducible refine ext_drew ?_) | (with_reducible refine ext_drewN ?_ _) | (with_reducible refine ext_alloc ?_ _) | (with_reducible refine ext_set ?_ (by first | omega | (simp <;> omega)) _) | (with_reducible refine ext_trans ?_ (by with_reducible assumption)))))
    have b0 : wb.cell? ⟨w.heap.size, 0, none⟩ = some (.slice a0 la.length c0) := by rw [ewb]; go_simp
    have b1 : wb.cell? ⟨w.heap.size, 1, none⟩ = some (.slice a1 lg.length c1) := by rw [ewb]; go_simp
    have b2 : wb.cell? ⟨w2.heap.size, 0, none⟩ = some (.slice a4 ta.length c4) := by rw [ewb]; go_simp
    have b3 : wb.cell? ⟨w2.heap.size, 1, none⟩ = some (.slice a5 n5 c5) := by rw [ewb]; go_simp
    have HTA := Lib.hid (show RSl RAt 3 (fun j => j < wb.heap.size) wb (.slice a4 ta.length c4) ta from RSl.more gAt (fun _ _ h => h) (by rw [ewb]; exact HA2.out.ext gAt (by repeat (first | (with_reducible exact ext_refl _) | (with_reducible assumption) | (with_reducible refine ext_drew ?_) | (with_reducible refine ext_drewN ?_ _) | (with_reducible refine ext_alloc ?_ _) | (with_reducible refine ext_set ?_ (by first | omega | (simp <;> omega)) _) | (with_reducible refine ext_trans ?_ (by with_reducible assumption))))))
    have HTG := Lib.hid (show RSl RMk 2 (fun j => j < wb.heap.size) wb (.slice a5 n5 c5) tg from RSl.more gMk (fun _ _ h => h) (by rw [ewb]; exact HG2.out.ext gMk (by repeat (first | (with_reducible exact ext_refl _) | (with_reducible assumption) | (with_reducible refine ext_drew ?_) | (with_reducible refine ext_drewN ?_ _) | (with_reducible refine ext_alloc ?_ _) | (with_reducible refine ext_set ?_ (by first | omega | (simp <;> omega)) _) | (with_reducible refine ext_trans ?_ (by with_reducible assumption))))))
    have hbw : w.heap.size < wb.heap.size := World.block_lt_of_cell? _ _ b0
    have hbA : w2.heap.size < wb.heap.size := World.block_lt_of_cell? _ _ b2
    clear ewb HA2 HG2 HX1 HX2 hx2 hx1 HAL
    go_loopw [7] (fun iv wr => ∃ k : Nat, k ≤ lg.length ∧ iv = .int .i64 k ∧ Hid (Ext wb wr)) (fun iv _ => lg.length - (intOf iv).toNat)
    case atStart => exact ⟨0, Nat.zero_le _, rfl, Lib.hid (ext_refl _)⟩
    case round =>
      obtain ⟨k, hk, rfl, HXB⟩ := hrel
      have x0 := (HXB.out.cells _ _ hbw).trans b0
      have x1 := (HXB.out.cells _ _ hbw).trans b1
      have x2 := (HXB.out.cells _ _ hbA).trans b2
      have x3 := (HXB.out.cells _ _ hbA).trans b3
      have HX := Lib.hid (ext_trans HWB.out HXB.out)
      have hsr := HXB.out.size
      have hwr : w.heap.size < wr.heap.size := by omega
      have hAr : w2.heap.size < wr.heap.size := by omega
      by_cases hlt : k < lg.length
      · obtain ⟨b, o, p, d, ap, cp, rfl, hb, ek, ick, hpp, y0, y1⟩ := mark_at (HLG.out wr HX.out) hlt
        have hg := HGO.out (p, d) (List.mem_of_getElem? ek)
        have HHG := Lib.hid (fun (W : World) (hx : Ext wr W) => hasGone_any (HTG.out.ext gMk (ext_trans HXB.out hx)) (rmk_of' (hpp.ext gStp hx) ick))
        have HHM := Lib.hid (fun (W : World) (hx : Ext wr W) => hasMark_any (HTA.out.ext gAt (ext_trans HXB.out hx)) (rmk_of' (hpp.ext gStp hx) ick))
        rw [hg.1] at HHG
        rw [hg.2] at HHM
        have hbr : b < wr.heap.size := hb
        clear ek ick hpp hg
        go_wp2_with fail
        refine wp_name (fun W2 eW2 => ?_)
        have e0 : W2.cell? ⟨w.heap.size, 0, none⟩ = some (.slice a0 la.length c0) := by rw [eW2]; go_simp
        have e1 : W2.cell? ⟨w.heap.size, 1, none⟩ = some (.slice (some ⟨b, o, none⟩) lg.length c1) := by rw [eW2]; go_simp
        have e2 : W2.cell? ⟨w2.heap.size, 0, none⟩ = some (.slice a4 ta.length c4) := by rw [eW2]; go_simp
        have e3 : W2.cell? ⟨w2.heap.size, 1, none⟩ = some (.slice a5 n5 c5) := by rw [eW2]; go_simp
        have e4 : W2.cell? ⟨b, o + k * 2, none⟩ = some (.slice ap p.length cp) := by rw [eW2]; go_simp
        have e5 : W2.cell? ⟨b, o + k * 2 + 1, none⟩ = some (.int .i64 d) := by rw [eW2]; go_simp
        have zW2_0 : w.heap.size < W2.heap.size := by rw [eW2]; first | assumption | omega | (simp <;> omega)
        have zW2_1 : w2.heap.size < W2.heap.size := by rw [eW2]; first | assumption | omega | (simp <;> omega)
        have zW2_2 : b < W2.heap.size := by rw [eW2]; first | assumption | omega | (simp <;> omega)
        have hw2 : Ext wr W2 := by rw [eW2]; exact (by repeat (first | (with_reducible exact ext_refl _) | (with_reducible assumption) | (with_reducible refine ext_drew ?_) | (with_reducible refine ext_drewN ?_ _) | (with_reducible refine ext_alloc ?_ _) | (with_reducible refine ext_set ?_ (by first | omega | (simp <;> omega)) _) | (with_reducible refine ext_trans ?_ (by with_reducible assumption))))
        clear eW2
        refine wp_region_later fol (by kernel_rfl) (fun hlater => ?_)
        repeat (go_big_quiet_step ((first
            | (go_at_call 20; (with_reducible exact later_of (HHG.out _ (ext_trans hw2 (Later.ext _)))))
            | (go_at_call 21; (with_reducible exact later_of (HHM.out _ (ext_trans hw2 (Later.ext _))))))))
        refine wpQuiet_nil ?_
        rintro W3 ⟨⟨w3x, hx3⟩, rfl⟩
        clear hlater
        go_wp2_with fail
        go_roundw
        case rel => exact ⟨k + 1, by omega, by go_num, Lib.hid (ext_trans HXB.out (ext_trans hw2 hx3))⟩
        case measure => simp [intOf]; omega
      · go_wp2_with fail
        refine wp_name (fun wc ewc => ?_)
        have HXC := Lib.hid (show Ext wb wc by rw [ewc]; exact ext_trans HXB.out (by repeat (first | (with_reducible exact ext_refl _) | (with_reducible assumption) | (with_reducible refine ext_drew ?_) | (with_reducible refine ext_drewN ?_ _) | (with_reducible refine ext_alloc ?_ _) | (with_reducible refine ext_set ?_ (by first | omega | (simp <;> omega)) _) | (with_reducible refine ext_trans ?_ (by with_reducible assumption)))))
        have hcs := HXC.out.size
        clear ewc x0 x1 x2 x3 HXB HX hsr hwr hAr
        go_loopw [8, 9] (fun ov iv wr => ∃ (k : Nat) (pm : List Mk), k ≤ l.length ∧ iv = .int .i64 k ∧ Hid (PutsAt l k pm) ∧ Hid (OSl RMk 2 29 wc.heap.size (fun j => wc.heap.size ≤ j) wr ov pm) ∧ Hid (Ext wc wr)) (fun _ iv _ => l.length - (intOf iv).toNat)
        case atStart => exact ⟨0, [], Nat.zero_le _, rfl, Lib.hid ⟨by simp, by simp⟩, Lib.hid osl_nil, Lib.hid (ext_refl _)⟩
        case round =>
          obtain ⟨k2, pm, hk2, rfl, HP, HO, HXD⟩ := hrel
          have HXB := Lib.hid (ext_trans HXC.out HXD.out)
          have x0 := (HXB.out.cells _ _ hbw).trans b0
          have x1 := (HXB.out.cells _ _ hbw).trans b1
          have x2 := (HXB.out.cells _ _ hbA).trans b2
          have x3 := (HXB.out.cells _ _ hbA).trans b3
          have HX := Lib.hid (ext_trans HWB.out HXB.out)
          have hsr := HXB.out.size
          have hwr : w.heap.size < wr.heap.size := by omega
          have hAr : w2.heap.size < wr.heap.size := by omega
          have HOL := Lib.hid (osl_lt HO.out)
          obtain ⟨a6, n6, c6, rfl⟩ := osl_slice HO.out
          obtain rfl : n6 = pm.length := (osl_len HO.out).1
          have hpl := HP.out.1
          by_cases hlt2 : k2 < l.length
          · obtain ⟨b, o, d, b1, m1, e1, b2', m2, e2, sx, rfl, hb, ek, hde, u0, u1, u2, u3, u4, u5, u6⟩ := deed_at (HL.out wr HX.out) hlt2
            have hcd := HDL.out d (List.mem_of_getElem? ek)
            obtain ⟨hp1, hp2⟩ := puts_next HP.out ek hcd
            have hbr : b < wr.heap.size := hb
            by_cases hkd : d.kind = 1
            · have HP1 := Lib.hid (hp1 hkd)
              have HMO := Lib.hid (fun (W : World) (hx : Ext wr W) => marksOf_any (gDe.ext hde hx) hcd)
              have hmf := marksD_few hcd
              have hkk : (d.kind == 1) = true := by simpa using hkd
              generalize marksD d = md at *
              generalize d.kind = dk at *
              generalize d.run.1.2 = rc at *
              generalize d.mark.2 = mc at *
              generalize d.many = dn at *
              clear hp1 hp2 ek hde hcd hkd
              go_wp2_with (first | (go_at_call 22; go_must ((with_reducible refine (HMO.out _ (by repeat (first | (with_reducible exact ext_refl _) | (with_reducible assumption) | (with_reducible refine ext_drew ?_) | (with_reducible refine ext_drewN ?_ _) | (with_reducible refine ext_alloc ?_ _) | (with_reducible refine ext_set ?_ (by first | omega | (simp <;> omega)) _) | (with_reducible refine ext_trans ?_ (by with_reducible assumption))))).mono ?_); rintro e w5 ⟨mv, rfl, hmv, hx5⟩; obtain ⟨am, nm, cm, rfl⟩ := hmv.slice; have HM5 := Lib.hid hmv; have HX5 := Lib.hid (show Ext wr w5 from ext_trans (by repeat (first | (with_reducible exact ext_refl _) | (with_reducible assumption) | (with_reducible refine ext_drew ?_) | (with_reducible refine ext_drewN ?_ _) | (with_reducible refine ext_alloc ?_ _) | (with_reducible refine ext_set ?_ (by first | omega | (simp <;> omega)) _) | (with_reducible refine ext_trans ?_ (by with_reducible assumption)))) hx5); have hs5 := HX5.out.size; clear hmv hx5)) | (at_builtin; go_must (refine wpList_appAll gMk rfl (.tmp 63) (.tmp 68) 23 rfl wc.heap.size 29 i0 _ 2 32 Try.underlying23 HJ.out HZ0.out HZ1.out HZ2.out rfl (by omega) (F := fun j => wc.heap.size ≤ j) (G := fun j => wr.heap.size ≤ j) (.slice a6 pm.length c6) pm rfl (osl_ext gMk HO.out (ext_trans HX5.out (by repeat (first | (with_reducible exact ext_refl _) | (with_reducible assumption) | (with_reducible refine ext_drew ?_) | (with_reducible refine ext_drewN ?_ _) | (with_reducible refine ext_alloc ?_ _) | (with_reducible refine ext_set ?_ (by first | omega | (simp <;> omega)) _) | (with_reducible refine ext_trans ?_ (by with_reducible assumption)))))) (.slice am nm cm) md rfl ((RSl.more gMk (fun j hj _ => (show wr.heap.size ≤ j by first | exact hj | omega | (simp at hj; omega))) HM5.out).ext gMk (by repeat (first | (with_reducible exact ext_refl _) | (with_reducible assumption) | (with_reducible refine ext_drew ?_) | (with_reducible refine ext_drewN ?_ _) | (with_reducible refine ext_alloc ?_ _) | (with_reducible refine ext_set ?_ (by first | omega | (simp <;> omega)) _) | (with_reducible refine ext_trans ?_ (by with_reducible assumption))))) one_mk (fun j hj _ => ⟨by have := HXD.out.size; omega, fun e => by have := HOL.out j e.symm; omega⟩) (mk_len (by omega) hmf) (mk_byt (by omega) hmf) (by have := HXD.out.size; first | omega | (simp <;> omega)) ?_; intro v9 w9 hown9 hg9 hat9; obtain ⟨a9, n9, c9, rfl⟩ := osl_slice hown9; have HX9 := Lib.hid (show Ext wc w9 from ext_grow (ext_trans HXD.out (ext_trans HX5.out (by repeat (first | (with_reducible exact ext_refl _) | (with_reducible assumption) | (with_reducible refine ext_drew ?_) | (with_reducible refine ext_drewN ?_ _) | (with_reducible refine ext_alloc ?_ _) | (with_reducible refine ext_set ?_ (by first | omega | (simp <;> omega)) _) | (with_reducible refine ext_trans ?_ (by with_reducible assumption)))))) hg9 (fun j hj => (HOL.out j hj).1)); have HV9 := Lib.hid hown9)))
              go_roundw
              case rel => exact ⟨k2 + 1, _, by omega, by go_num, HP1, HV9, HX9⟩
              case measure => simp [intOf]; omega
            · have HP2 := Lib.hid (hp2 hkd)
              have hkk : (d.kind == 1) = false := by simpa using hkd
              generalize d.kind = dk at *
              clear hp1 hp2 ek hde hcd hkd
              go_wp2_with fail
              go_roundw
              case rel => exact ⟨k2 + 1, pm, by omega, by go_num, HP2, HO, HXD⟩
              case measure => simp [intOf]; omega
          · obtain rfl : k2 = l.length := by omega
            have HPF := Lib.hid (show ∀ d ∈ l, d.kind = 1 → ∀ m ∈ marksD d, m ∈ pm by have := HP.out.2; rwa [List.take_of_length_le (Nat.le_refl _)] at this)
            go_wp2_with fail
            refine wp_name (fun wd ewd => ?_)
            have HXE := Lib.hid (show Ext wb wd by rw [ewd]; exact ext_trans HXB.out (by repeat (first | (with_reducible exact ext_refl _) | (with_reducible assumption) | (with_reducible refine ext_drew ?_) | (with_reducible refine ext_drewN ?_ _) | (with_reducible refine ext_alloc ?_ _) | (with_reducible refine ext_set ?_ (by first | omega | (simp <;> omega)) _) | (with_reducible refine ext_trans ?_ (by with_reducible assumption)))))
            have hds := HXE.out.size
            have HPM := Lib.hid (show RSl RMk 2 (fun _ => True) wd (.slice a6 pm.length c6) pm by rw [ewd]; exact (osl_rsl gMk HO.out (fun _ _ _ => trivial) (fun _ _ => trivial)).ext gMk (by repeat (first | (with_reducible exact ext_refl _) | (with_reducible assumption) | (with_reducible refine ext_drew ?_) | (with_reducible refine ext_drewN ?_ _) | (with_reducible refine ext_alloc ?_ _) | (with_reducible refine ext_set ?_ (by first | omega | (simp <;> omega)) _) | (with_reducible refine ext_trans ?_ (by with_reducible assumption)))))
            clear ewd x0 x1 x2 x3 HXB HX HXD HO HP HOL hsr hwr hAr
            go_loopw [10] (fun iv wr => ∃ k : Nat, k ≤ ta.length ∧ iv = .int .i64 k ∧ Hid (Ext wd wr)) (fun iv _ => ta.length - (intOf iv).toNat)
            case atStart => exact ⟨0, Nat.zero_le _, rfl, Lib.hid (ext_refl _)⟩
            case round =>
              obtain ⟨k3, hk3, rfl, HXD⟩ := hrel
              have HXB := Lib.hid (ext_trans HXE.out HXD.out)
              have x0 := (HXB.out.cells _ _ hbw).trans b0
              have x1 := (HXB.out.cells _ _ hbw).trans b1
              have x2 := (HXB.out.cells _ _ hbA).trans b2
              have x3 := (HXB.out.cells _ _ hbA).trans b3
              have HX := Lib.hid (ext_trans HWB.out HXB.out)
              have hsr := HXB.out.size
              have hwr : w.heap.size < wr.heap.size := by omega
              have hAr : w2.heap.size < wr.heap.size := by omega
              by_cases hlt3 : k3 < ta.length
              · obtain ⟨b, o, p, d, s, ap, cp, rfl, hb, ek, ick, hpp, y0, y1, y2⟩ := atm_at (HTA.out.ext gAt HXB.out) hlt3
                have hwas := HWA.out (p, d) (hasM_iff.2 ⟨_, List.mem_of_getElem? ek, rfl⟩)
                have HHM := Lib.hid (fun (W : World) (hx : Ext wr W) => hasMark_any (HLA.out W (ext_trans HX.out hx)) (rmk_of' (hpp.ext gStp hx) ick))
                have HHG := Lib.hid (fun (W : World) (hx : Ext wr W) => hasGone_any (HPM.out.ext gMk (ext_trans HXD.out hx)) (rmk_of' (hpp.ext gStp hx) ick))
                have hgm : hasM la (p, d) = false → hasG pm (p, d) = true := fun hf => by
                  rcases hwas with h | ⟨e, he, hk, hm⟩
                  · rw [hf] at h; cases h
                  · exact hasG_iff.2 (HPF.out e he hk _ hm)
                have hbr : b < wr.heap.size := hb
                clear ek ick hpp hwas
                cases hm : hasM la (p, d) with
                | true =>
                  rw [hm] at HHM
                  clear hgm hm
                  go_wp2_with fail
                  refine wp_name (fun W2 eW2 => ?_)
                  have e0 : W2.cell? ⟨w.heap.size, 0, none⟩ = some (.slice a0 la.length c0) := by rw [eW2]; go_simp
                  have e1 : W2.cell? ⟨w.heap.size, 1, none⟩ = some (.slice a1 lg.length c1) := by rw [eW2]; go_simp
                  have e2 : W2.cell? ⟨w2.heap.size, 0, none⟩ = some (.slice (some ⟨b, o, none⟩) ta.length c4) := by rw [eW2]; go_simp
                  have e3 : W2.cell? ⟨w2.heap.size, 1, none⟩ = some (.slice a5 n5 c5) := by rw [eW2]; go_simp
                  have e4 : W2.cell? ⟨b, o + k3 * 3, none⟩ = some (.slice ap p.length cp) := by rw [eW2]; go_simp
                  have e5 : W2.cell? ⟨b, o + k3 * 3 + 1, none⟩ = some (.int .i64 d) := by rw [eW2]; go_simp
                  have e6 : W2.cell? ⟨b, o + k3 * 3 + 2, none⟩ = some (.int .u8 s.toNat) := by rw [eW2]; go_simp
                  have zW2_0 : w.heap.size < W2.heap.size := by rw [eW2]; first | assumption | omega | (simp <;> omega)
                  have zW2_1 : w2.heap.size < W2.heap.size := by rw [eW2]; first | assumption | omega | (simp <;> omega)
                  have zW2_2 : b < W2.heap.size := by rw [eW2]; first | assumption | omega | (simp <;> omega)
                  have hw2 : Ext wr W2 := by rw [eW2]; exact (by repeat (first | (with_reducible exact ext_refl _) | (with_reducible assumption) | (with_reducible refine ext_drew ?_) | (with_reducible refine ext_drewN ?_ _) | (with_reducible refine ext_alloc ?_ _) | (with_reducible refine ext_set ?_ (by first | omega | (simp <;> omega)) _) | (with_reducible refine ext_trans ?_ (by with_reducible assumption))))
                  clear eW2
                  refine wp_region_later fol (by kernel_rfl) (fun hlater => ?_)
                  repeat (go_big_quiet_step ((first
                      | (go_at_call 20; (with_reducible exact later_of (HHG.out _ (ext_trans hw2 (Later.ext _)))))
                      | (go_at_call 21; (with_reducible exact later_of (HHM.out _ (ext_trans hw2 (Later.ext _))))))))
                  refine wpQuiet_nil ?_
                  rintro W3 ⟨⟨w3x, hx3⟩, rfl⟩
                  clear hlater
                  go_wp2_with fail
                  go_roundw
                  case rel => exact ⟨k3 + 1, by omega, by go_num, Lib.hid (ext_trans HXD.out (ext_trans hw2 hx3))⟩
                  case measure => simp [intOf]; omega
                | false =>
                  rw [hm] at HHM
                  rw [hgm hm] at HHG
                  clear hgm hm
                  go_wp2_with fail
                  refine wp_name (fun W2 eW2 => ?_)
                  have e0 : W2.cell? ⟨w.heap.size, 0, none⟩ = some (.slice a0 la.length c0) := by rw [eW2]; go_simp
                  have e1 : W2.cell? ⟨w.heap.size, 1, none⟩ = some (.slice a1 lg.length c1) := by rw [eW2]; go_simp
                  have e2 : W2.cell? ⟨w2.heap.size, 0, none⟩ = some (.slice (some ⟨b, o, none⟩) ta.length c4) := by rw [eW2]; go_simp
                  have e3 : W2.cell? ⟨w2.heap.size, 1, none⟩ = some (.slice a5 n5 c5) := by rw [eW2]; go_simp
                  have e4 : W2.cell? ⟨b, o + k3 * 3, none⟩ = some (.slice ap p.length cp) := by rw [eW2]; go_simp
                  have e5 : W2.cell? ⟨b, o + k3 * 3 + 1, none⟩ = some (.int .i64 d) := by rw [eW2]; go_simp
                  have e6 : W2.cell? ⟨b, o + k3 * 3 + 2, none⟩ = some (.int .u8 s.toNat) := by rw [eW2]; go_simp
                  have zW2_0 : w.heap.size < W2.heap.size := by rw [eW2]; first | assumption | omega | (simp <;> omega)
                  have zW2_1 : w2.heap.size < W2.heap.size := by rw [eW2]; first | assumption | omega | (simp <;> omega)
                  have zW2_2 : b < W2.heap.size := by rw [eW2]; first | assumption | omega | (simp <;> omega)
                  have hw2 : Ext wr W2 := by rw [eW2]; exact (by repeat (first | (with_reducible exact ext_refl _) | (with_reducible assumption) | (with_reducible refine ext_drew ?_) | (with_reducible refine ext_drewN ?_ _) | (with_reducible refine ext_alloc ?_ _) | (with_reducible refine ext_set ?_ (by first | omega | (simp <;> omega)) _) | (with_reducible refine ext_trans ?_ (by with_reducible assumption))))
                  clear eW2
                  refine wp_region_later fol (by kernel_rfl) (fun hlater => ?_)
                  repeat (go_big_quiet_step ((first
                      | (go_at_call 20; (with_reducible exact later_of (HHG.out _ (ext_trans hw2 (Later.ext _)))))
                      | (go_at_call 21; (with_reducible exact later_of (HHM.out _ (ext_trans hw2 (Later.ext _))))))))
                  refine wpQuiet_nil ?_
                  rintro W3 ⟨⟨w3x, hx3⟩, rfl⟩
                  clear hlater
                  go_wp2_with fail
                  go_roundw
                  case rel => exact ⟨k3 + 1, by omega, by go_num, Lib.hid (ext_trans HXD.out (ext_trans hw2 hx3))⟩
                  case measure => simp [intOf]; omega
              · go_wp2_with fail
                go_ret
                exact ⟨rfl, HX.out⟩
  · have hv := allV_errG h0
    rw [hv] at HAL
    generalize allE (la, lg) l = r1 at *
    have g1 : (r1 != 0) = true := by simpa using h0
    clear hv
    go_enter Try.func5, Try.ntmps5
    go_wp2_with (first | (go_at_call 13; go_must ((with_reducible refine (stateBegun_any _).mono ?_); rintro e w1 ⟨rfl, hx1⟩; have hs1 := hx1.size; (try simp at hs1); have l1 : w.heap.size < w1.heap.size := (by omega); have p0 := (hx1.cells (w.heap.size) 0 (by first | omega | (simp <;> omega))).trans (show _ = some (.slice a0 la.length c0) by first | assumption | go_simp); have p1 := (hx1.cells (w.heap.size) 1 (by first | omega | (simp <;> omega))).trans (show _ = some (.slice a1 lg.length c1) by first | assumption | go_simp); have HX1 := Lib.hid (show Ext w w1 from ext_trans (by repeat (first | (with_reducible exact ext_refl _) | (with_reducible assumption) | (with_reducible refine ext_drew ?_) | (with_reducible refine ext_drewN ?_ _) | (with_reducible refine ext_alloc ?_ _) | (with_reducible refine ext_set ?_ (by first | omega | (simp <;> omega)) _) | (with_reducible refine ext_trans ?_ (by with_reducible assumption)))) hx1))) | (go_at_call 11; go_must ((with_reducible refine (HAL.out _ (ext_trans HX1.out (by repeat (first | (with_reducible exact ext_refl _) | (with_reducible assumption) | (with_reducible refine ext_drew ?_) | (with_reducible refine ext_drewN ?_ _) | (with_reducible refine ext_alloc ?_ _) | (with_reducible refine ext_set ?_ (by first | omega | (simp <;> omega)) _) | (with_reducible refine ext_trans ?_ (by with_reducible assumption)))))).mono ?_); rintro e w2 ⟨v2, u2, rfl, ho2, hx2⟩; obtain ⟨a4, n4, c4, rfl⟩ := osl_slice ho2.1; obtain ⟨a5, n5, c5, rfl⟩ := osl_slice ho2.2.1; obtain rfl : n4 = 0 := (osl_len ho2.1).1; have HX2 := Lib.hid (show Ext w w2 from ext_trans (ext_trans HX1.out (by repeat (first | (with_reducible exact ext_refl _) | (with_reducible assumption) | (with_reducible refine ext_drew ?_) | (with_reducible refine ext_drewN ?_ _) | (with_reducible refine ext_alloc ?_ _) | (with_reducible refine ext_set ?_ (by first | omega | (simp <;> omega)) _) | (with_reducible refine ext_trans ?_ (by with_reducible assumption))))) hx2); clear ho2)))
    go_ret
    exact ⟨rfl, ext_trans HX2.out (by repeat (first | (with_reducible exact ext_refl _) | (with_reducible assumption) | (with_reducible refine ext_drew ?_) | (with_reducible refine ext_drewN ?_ _) | (with_reducible refine ext_alloc ?_ _) | (with_reducible refine ext_set ?_ (by first | omega | (simp <;> omega)) _) | (with_reducible refine ext_trans ?_ (by with_reducible assumption))))⟩
end Go.Proofs.Ytfgfdohppgoajaa
