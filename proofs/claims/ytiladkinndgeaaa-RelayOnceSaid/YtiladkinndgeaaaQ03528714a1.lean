/- RelayTells, walked. -/
import Derived.Test.YtiladkinndgeaaaQ604934208e
import Derived.Test.YtiladkinndgeaaaQ1f6d8f4656
import Derived.Deep.DeepCutAuto
import Derived.Test.YtiladkinndgeaaaQf69f251b3b
import Derived.Test.YtiladkinndgeaaaQ0556a5407c
import Derived.Deep.RegionHeld3
set_option linter.unusedVariables false
set_option linter.unusedSimpArgs false
namespace Go.Proofs.Ytiladkinndgeaaa
open Go Go.RowKit Go.BigFrame Cp

theorem noG_l0 {a : Nat} (h : a ≤ 1000) : ([] : List No).length + a ≤ maxLen := Nat.le_trans (by simp; omega : ([] : List No).length + a ≤ 1001) (by unfold maxLen; decide)
theorem noG_b0 {a : Nat} (h : a ≤ 1000) : (([] : List No).length + a) * 64 ≤ 140737488355328 := by simp; omega
theorem wrap_h1 {h : Nat} (k : h ≤ 300) : wrap64 ((h : Int) + 1) = (h : Int) + 1 := IntWalk.wrap64_in _ (by omega)
theorem osl_emp {w0 w' : World} {g e base : Nat} {F : Nat → Prop} (hx : Ext (w0.alloc (.cells #[] e)) w') (hg : w0.heap.size = g) (hb : base ≤ g) : OSl RNo 4 e base F w' (.slice (some ⟨g, 0, none⟩) 0 0) [] := osl_ext gNo (osl_newAt hg hb) hx
end Go.Proofs.Ytiladkinndgeaaa
/- RelayOnce, walked. -/
namespace Go.Proofs.Ytiladkinndgeaaa
open Go Go.RowKit Go.BigFrame Cp

theorem step_appAllG {α : Type} {P : Program} {ops : Array Oper} {o : Oper} {a : Act} {K : Act → World → Prop} {Q : Exit → Act → World → Prop} {E : Prop} {w : World} {R : Rd α} (g : Cp.Good R) (hw : Region.wanted o (yielded ops a.tmps) = true) (s x : Operand) (t : TypeId)
    (ho : o.op = .call { callee := .builtin .append, args := #[s, x], argTypes := #[t, t] })
    (base : Nat) (e : TypeId) (i : TypeInfo) (z : Value) (sz bytes : Nat) (ht : P.underlying t = some (.slice e)) (hi : P.info? e = some i) (hz : i.zero = some z)
    (hsize : i.size = sz) (hby : i.bytes = bytes) (hzs : z.cells.size = sz) (hsz : 0 < sz)
    {F G : Nat → Prop} (v : Value) (l : List α) (hs : a.eval s = v) (hown : OSl R sz e base F w v l)
    (u : Value) (m : List α) (hx : a.eval x = u) (hm : RSl R sz G w u m) (h1 : ∀ F w cs y, R F w cs y → ∀ u ∈ cs, u.oneCell' = true) (hG : ∀ k, G k → k < w.heap.size → F k ∧ some k ≠ v.ownBlock)
    (h63 : l.length + m.length ≤ maxLen) (hbytes : (l.length + m.length) * bytes ≤ 140737488355328) (hbase : base ≤ w.heap.size)
    (h : ∀ v' w', OSl R sz e base F w' v' (l ++ m) → w.grownBy w' v.ownBlock → (v'.ownBlock = v.ownBlock ∨ v'.ownBlock = some w.heap.size) → K (a.put o.dst v') w') : if Region.wanted o (yielded ops a.tmps) = true then Oper.wp P o a w K Q else E := by
  rw [if_pos hw]
  exact wp_appAll g s x t ho base e i z sz bytes ht hi hz hsize hby hzs hsz v l hs hown u m hx hm h1 hG h63 hbytes hbase h
theorem log_at {L : List No} {i : Nat} {d : No} (h : checkLog L = 0) (hi : L[i]? = some d) : d.number = (howN (L.take i) d.site : Int) + 1 := ((checkLog_ok.1 h).2 i d hi).2
theorem log_len {L : List No} (h : checkLog L = 0) : L.length ≤ 300 := (checkLog_ok.1 h).1
theorem inB_of {n a b : Int} (h1 : a ≤ n) (h2 : n ≤ b) : inB n a b = true := by unfold inB; simp [h1, h2]
theorem pull_0 {L : List No} {m : Nat} (h : checkLog L = 0) (hm : m ≤ L.length) : pullE L 0 (m : Int) = 0 ∧ pullV L 0 (m : Int) = L.take m := by
  have hl := log_len h
  have e : pullE L 0 (m : Int) = 0 := by
    unfold pullE
    rw [if_neg (by simpa using h), if_neg (by rw [inB_of (by omega) (by omega), inB_of (by omega) (by omega)]; simp)]
  refine ⟨e, ?_⟩
  unfold pullV
  rw [if_pos e]; simp
theorem pull_1 {L : List No} {m : Nat} (h : checkLog L = 0) (hm : m ≤ L.length) : pullE L (m : Int) 300 = 0 ∧ pullV L (m : Int) 300 = L.drop m := by
  have hl := log_len h
  have e : pullE L (m : Int) 300 = 0 := by
    unfold pullE
    rw [if_neg (by simpa using h), if_neg (by rw [inB_of (by omega) (by omega), inB_of (by omega) (by omega)]; simp)]
  refine ⟨e, ?_⟩
  unfold pullV
  rw [if_pos e]
  simp only [Int.toNat_natCast]
  exact List.take_of_length_le (by rw [List.length_drop]; simp; omega)
theorem pull0_any {F : Nat → Prop} {w : World} {v : Value} {L : List No} {m : Nat} (h : RSl RNo 4 F w v L) (hc : checkLog L = 0) (hm : m ≤ L.length) : Calls Try.prog 16 #[.agg #[v], .int .i64 0, .int .i64 (m : Int)] w (IsPullC (L.take m) w) := by
  obtain ⟨e1, e2⟩ := pull_0 hc hm
  have hl := log_len hc
  have h := pull_any (c := 0) (m := (m : Int)) h (i64_small (by simp) (by simp)) ⟨by omega, by omega⟩
  exact h.mono fun e w' ⟨u, he, hu, hx⟩ => ⟨u, by rw [he, e1], by rw [e2] at hu; exact hu, hx⟩
theorem pull1_any {F : Nat → Prop} {w : World} {v : Value} {L : List No} {m : Nat} (h : RSl RNo 4 F w v L) (hc : checkLog L = 0) (hm : m ≤ L.length) : Calls Try.prog 16 #[.agg #[v], .int .i64 (m : Int), .int .i64 300] w (IsPullC (L.drop m) w) := by
  obtain ⟨e1, e2⟩ := pull_1 hc hm
  have hl := log_len hc
  have h := pull_any (c := (m : Int)) (m := 300) h ⟨by omega, by omega⟩ (i64_small (by simp) (by simp))
  exact h.mono fun e w' ⟨u, he, hu, hx⟩ => ⟨u, by rw [he, e1], by rw [e2] at hu; exact hu, hx⟩
theorem noG_lx {a b : Nat} (h : a ≤ 1000) (k : b ≤ 300) : a + b ≤ maxLen := Nat.le_trans (by omega : a + b ≤ 1301) (by unfold maxLen; decide)
theorem noG_bx {a b : Nat} (h : a ≤ 1000) (k : b ≤ 300) : (a + b) * 64 ≤ 140737488355328 := by omega
theorem wrap_sub1 {h : Nat} (k : h ≤ 300) : wrap64 ((h : Int) + 1 - 1) = (h : Int) := by rw [IntWalk.wrap64_in _ (by omega)]; omega
set_option maxRecDepth 100000 in
set_option maxHeartbeats 4000000 in
theorem relayOnce_any {F : Nat → Prop} {w : World} {v : Value} {l : List No} {cut : Int} (h : RSl RNo 4 F w v l) (ic : I64 cut) :
    Calls Try.prog 6 #[v, .int .i64 cut] w fun e w' => e = .returned (.bool true) ∧ Ext w w' := by
  have HL := Lib.hid (fun (W : World) (hx : Ext w W) => h.ext gNo hx)
  obtain ⟨a0, n0, c0, rfl⟩ := h.slice
  obtain rfl : n0 = l.length := h.len.1
  have hlm : l.length ≤ 9223372036854775807 := by have := h.len.2; unfold maxLen at this; omega
  clear h
  go_enter Try.func6, Try.ntmps6
  go_wp2_with (first | (go_at_call 19; go_must ((with_reducible refine (relayBegun_any _).mono ?_); rintro e w1 ⟨rfl, hx1⟩; skip)))
  refine wp_name (fun W1 eW1 => ?_)
  have r0 : W1.cell? ⟨w1.heap.size, 0, none⟩ = some (.slice none 0 0) := by rw [eW1]; go_simp
  have rf0 : W1.frozen? ⟨w1.heap.size, 0, none⟩ = false := by rw [eW1]; go_simp
  have HX1 := Lib.hid (show Ext w W1 by rw [eW1]; exact ext_trans hx1 extA)
  have hr0 : w1.heap.size < W1.heap.size := World.block_lt_of_cell? _ _ r0
  have hwr1 : w.heap.size ≤ w1.heap.size := hx1.size
  clear eW1 hx1
  generalize w1.heap.size = rb at *
  go_loopw [6] (fun iv wr => ∃ (k : Nat) (L : List No) (a : Option Addr) (c : Nat), k ≤ l.length ∧ iv = .int .i64 k ∧ wr.cell? ⟨rb, 0, none⟩ = some (.slice a L.length c) ∧ wr.frozen? ⟨rb, 0, none⟩ = false ∧ Hid (checkLog L = 0) ∧ Hid (RSl RNo 4 (fun j => j ≠ rb) wr (.slice a L.length c) L) ∧ Hid (Ext w wr)) (fun iv _ => l.length - (intOf iv).toNat)
  case atStart => exact ⟨0, [], none, 0, Nat.zero_le _, rfl, r0, rf0, Lib.hid rfl, Lib.hid (RSl.nil_ (Nat.zero_le _)), HX1⟩
  case round =>
    obtain ⟨k, L, a3, c3, hk, rfl, q0, qf, HC, HR, HX⟩ := hrel
    have hrb : rb < wr.heap.size := World.block_lt_of_cell? _ _ q0
    clear r0 rf0
    by_cases hlt : k < l.length
    · obtain ⟨b, o, d, a1, n1, c1, a2, n2, c2, rfl, hb, ek, hd, y0, y1, y2, y3⟩ := note_at (HL.out wr HX.out) hlt
      have HPO := Lib.hid (fun (W : World) (hx : Ext wr W) => post_any (HR.out.ext gNo hx) (gNo.ext hd hx))
      have HPR := Lib.hid (fun (h : postE L d = 0) => post_right h)
      have HPE := Lib.hid (fun (h : ¬ postE L d = 0) => post_err h)
      clear ek hd
      unfold IsPost at HPO
      generalize postE L d = er at *
      generalize postB L d = ok at *
      generalize postV L d = V at *
      go_upto_region 7 with fail
      refine wp_name (fun W6 eW6 => ?_)
      have p0 : W6.cell? ⟨rb, 0, none⟩ = some (.slice a3 L.length c3) := by rw [eW6]; go_simp
      have pf : W6.frozen? ⟨rb, 0, none⟩ = false := by rw [eW6]; go_simp
      have s0 : W6.cell? ⟨b, o + k * 4, none⟩ = some (.int .i64 d.site) := by rw [eW6]; go_simp
      have s1 : W6.cell? ⟨b, o + k * 4 + 1, none⟩ = some (.int .i64 d.number) := by rw [eW6]; go_simp
      have s2 : W6.cell? ⟨b, o + k * 4 + 2, none⟩ = some (.slice a1 n1 c1) := by rw [eW6]; go_simp
      have s3 : W6.cell? ⟨b, o + k * 4 + 3, none⟩ = some (.slice a2 n2 c2) := by rw [eW6]; go_simp
      have HX6 := Lib.hid (show Ext wr W6 by rw [eW6]; exact extA)
      have zr6 : rb < W6.heap.size := World.block_lt_of_cell? _ _ p0
      have zb6 : b < W6.heap.size := World.block_lt_of_cell? _ _ s0
      clear eW6 y0 y1 y2 y3 q0 qf
      go_cut [7, 8, 9] from 17 to 57 (fun s7 s8 s9 wx => s8 = .bool ok ∧ s9 = .int .i64 er ∧ ∃ (ob : Nat) (a4 : Option Addr) (c4 : Nat), s7 = .pointer (some ⟨ob, 0, none⟩) ∧ wx.cell? ⟨ob, 0, none⟩ = some (.slice a4 V.length c4) ∧ wx.cell? ⟨rb, 0, none⟩ = some (.slice a3 L.length c3) ∧ wx.frozen? ⟨rb, 0, none⟩ = false ∧ Hid (RSl RNo 4 (fun j => j ≠ rb) wx (.slice a4 V.length c4) V) ∧ Hid (Ext wr wx))
      case first =>
        go_region_law (first
          | (go_simp; go_at_call 15; go_must ((with_reducible refine (HPO.out _ (ext_trans HX6.out extA)).mono ?_); rintro e w4 ⟨u4, rfl, hu4, hx4⟩; obtain ⟨a4, n4, c4, rfl⟩ := hu4.slice; obtain rfl : n4 = V.length := hu4.len.1; have HX4 := Lib.hid (show Ext W6 w4 from ext_trans extA hx4); have HV4 := Lib.hid hu4; clear hu4; have m0 := (HX4.out.cells rb 0 zr6).trans p0; have mf := (HX4.out.frz rb 0 zr6).trans pf; have hm4 : rb < w4.heap.size := World.block_lt_of_cell? _ _ m0; (try (refine with_factG (T := w4.cell? ⟨W6.heap.size, 0, none⟩ = some (.slice none 0 0)) ?_ (fun nc => ?_); (focus (refine Eq.trans (hx4.cells (W6.heap.size) 0 ?_) ?_; (focus ((first | omega | (simp <;> omega)); done)); (focus ((first | (with_reducible assumption) | go_simp); done)); done)))); (try (refine with_factG (T := w4.frozen? ⟨W6.heap.size, 0, none⟩ = false) ?_ (fun nf => ?_); (focus (refine Eq.trans (hx4.frz (W6.heap.size) 0 ?_) ?_; (focus ((first | omega | (simp <;> omega)); done)); (focus ((first | (with_reducible assumption) | go_simp); done)); done)))); (try (refine with_factG (T := W6.heap.size < w4.heap.size) ?_ (fun nl => ?_); (focus (have h9 := World.block_lt_of_cell? _ _ nc; exact h9)))))))
        all_goals (go_wp2_with fail; go_meet)
        all_goals
          have hX4 := HX4.out
          refine ⟨rfl, rfl, _, a4, c4, rfl, by first | (with_reducible assumption) | go_simp, by first | (with_reducible assumption) | go_simp, by first | (with_reducible assumption) | go_simp, ?_, Lib.hid (ext_trans HX6.out extA)⟩
          have hz6 := HX4.out.size
          first
            | exact Lib.hid (RSl.more gNo (fun j hj _ => (by have hj' : _ ≤ j := hj; (try simp at hj'); omega)) (RSl.keep gNo (keeps_set keeps_refl (by intro _ h; have h' := h; first | (simp at h'; done) | (simp at h'; omega) | omega) _) HV4.out))
            | exact Lib.hid (RSl.more gNo (fun j hj _ => (by have hj' : _ ≤ j := hj; (try simp at hj'); omega)) (RSl.ext gNo HV4.out extA))
      case rest =>
        obtain ⟨rfl, rfl, ob, a4, c4, rfl, x0, q0, qf, HV, HXC⟩ := hcut
        have hob : ob < wc.heap.size := World.block_lt_of_cell? _ _ x0
        have hrc : rb < wc.heap.size := World.block_lt_of_cell? _ _ q0
        clear HPO p0 pf s0 s1 s2 s3 HX6
        by_cases he : er = 0
        · obtain ⟨_, _, g3, g4, g5⟩ := HPR.out he
          have t0 : (er != 0) = false := by simp [he]
          have HCH := Lib.hid (fun (W : World) (hx : Ext wc W) => checkRelayP_any (HV.out.ext gNo hx))
          rw [g3] at HCH
          have HG3 := Lib.hid g3
          clear he g3 HPR HPE
          cases ok with
          | true =>
            obtain rfl : V = L ++ [d] := g4 rfl
            have t1 : (((L ++ [d]).length : Int) == (L.length : Int) + 1) = true := by simp
            have hll : wrap64 ((L.length : Int) + 1) = (L.length : Int) + 1 := wrap_h1 (log_len HC.out)
            have HWL := Lib.hid hll
            clear g4 g5 hll
            generalize L ++ [d] = V at *
            go_upto_region 11 with fail
            have hll := HWL.out
            go_wp2_with (first | (go_at_call 20; go_must ((with_reducible refine (HCH.out _ extA).mono ?_); rintro e w5 ⟨rfl, hx5⟩; have m0 := hx5.cl ob 0 (.slice a4 V.length c4); have m1 := hx5.cl rb 0 (.slice a3 L.length c3); have mf := hx5.fz rb 0; have hob5 := hx5.lt ob; have hrb5 := hx5.lt rb)))
            go_roundw
            case rel => exact ⟨k + 1, V, a4, c4, hlt, by go_num, by go_simp, by go_simp, HG3, Lib.hid (RSl.keep gNo (keeps_set keeps_refl (by simp) _) (HV.out.ext gNo (ext_trans hx5 extA))), Lib.hid (ext_set (ext_trans HX.out (ext_trans HXC.out (ext_trans hx5 extA))) (by omega) _)⟩
            case measure => simp [intOf]; omega
          | false =>
            obtain rfl : V = L := g5 rfl
            have t1 : (((V.length : Nat) : Int) == (V.length : Int) + 1) = false := by rw [beq_eq_false_iff_ne]; omega
            have hll : wrap64 ((V.length : Int) + 1) = (V.length : Int) + 1 := wrap_h1 (log_len HC.out)
            have HWL := Lib.hid hll
            clear g4 g5 hll
            go_upto_region 11 with fail
            have hll := HWL.out
            go_wp2_with (first | (go_at_call 20; go_must ((with_reducible refine (HCH.out _ extA).mono ?_); rintro e w5 ⟨rfl, hx5⟩; have m0 := hx5.cl ob 0 (.slice a4 V.length c4); have m1 := hx5.cl rb 0 (.slice a3 V.length c3); have mf := hx5.fz rb 0; have hob5 := hx5.lt ob; have hrb5 := hx5.lt rb)))
            go_roundw
            case rel => exact ⟨k + 1, V, a4, c4, hlt, by go_num, by go_simp, by go_simp, HG3, Lib.hid (RSl.keep gNo (keeps_set keeps_refl (by simp) _) (HV.out.ext gNo (ext_trans hx5 extA))), Lib.hid (ext_set (ext_trans HX.out (ext_trans HXC.out (ext_trans hx5 extA))) (by omega) _)⟩
            case measure => simp [intOf]; omega
        · obtain ⟨rfl, rfl⟩ := HPE.out he
          have t0 : (er != 0) = true := by simpa using he
          clear he HPR HPE
          go_wp2_with fail
          go_roundw
          case rel => exact ⟨k + 1, L, a3, c3, hlt, by go_num, by go_simp, by go_simp, HC, Lib.hid ((HR.out.ext gNo HXC.out).ext gNo extA), Lib.hid (ext_trans HX.out (ext_trans HXC.out extA))⟩
          case measure => simp [intOf]; omega
    · clear HX1
      go_wp2_with fail
      obtain ⟨V1, eV1⟩ : ∃ W : World, W = wr := ⟨wr, rfl⟩
      subst eV1
      clear hlt hk
      have hL3 := log_len HC.out
      go_loopw [10] (fun iv wr => ∃ k : Nat, k ≤ L.length ∧ iv = .int .i64 k ∧ Hid (Ext V1 wr)) (fun iv _ => L.length - (intOf iv).toNat)
      case atStart => exact ⟨0, Nat.zero_le _, rfl, Lib.hid extA⟩
      case round =>
        obtain ⟨k', hk, rfl, HXB⟩ := hrel
        have hrw : rb < wr.heap.size := Nat.lt_of_lt_of_le hrb HXB.out.size
        have x0 := (HXB.out.cells rb 0 hrb).trans q0
        by_cases hlt : k' < L.length
        · obtain ⟨b, o, d, a1, n1, c1, a2, n2, c2, ea, hb, ek, hd, y0, y1, y2, y3⟩ := note_at (HR.out.ext gNo HXB.out) hlt
          subst ea
          have hnum := log_at HC.out ek
          have HHM := Lib.hid (fun (W : World) (hx : Ext wr W) => howMany_any d.site (rsl_take ((HR.out.ext gNo HXB.out).ext gNo hx) (i := k') (Nat.le_of_lt hlt)) (by rw [List.length_take]; omega))
          have hhl : howN (L.take k') d.site ≤ 300 := Nat.le_trans (howN_len _ _) (by rw [List.length_take]; omega)
          generalize howN (L.take k') d.site = hn at *
          have HW := Lib.hid (wrap_sub1 hhl)
          have HWB := Lib.hid (show wrap64 (hn : Int) = (hn : Int) from IntWalk.wrap64_in _ (by omega))
          rw [hnum] at y1
          have hcap : L.length ≤ c3 := HR.out.len.2.1
          have hkc : k' ≤ c3 := by omega
          clear ek hd hnum
          go_wp2_with fail
          refine wp_name (fun W2 eW2 => ?_)
          have e0 : W2.cell? ⟨rb, 0, none⟩ = some (.slice (some ⟨b, o, none⟩) L.length c3) := by rw [eW2]; go_simp
          have e1 : W2.cell? ⟨b, o + k' * 4, none⟩ = some (.int .i64 d.site) := by rw [eW2]; go_simp
          have e2 : W2.cell? ⟨b, o + k' * 4 + 1, none⟩ = some (.int .i64 ((hn : Int) + 1)) := by rw [eW2]; go_simp
          have zW2_0 : rb < W2.heap.size := by rw [eW2]; first | assumption | omega | (simp <;> omega)
          have zW2_1 : b < W2.heap.size := by rw [eW2]; first | assumption | omega | (simp <;> omega)
          have hw2 : Ext wr W2 := by rw [eW2]; exact extA
          clear eW2
          refine wp_region_later fol (by kernel_rfl) (fun hlater => ?_)
          repeat (go_big_quiet_step ((first
              | (go_at_call 18; (with_reducible exact later_of (HHM.out _ (ext_trans hw2 (Later.ext _))))))))
          refine wpQuiet_nil ?_
          rintro w3 ⟨⟨w3x, hx3⟩, rfl⟩
          clear hlater
          (first | rw [HW.out] | rw [HWB.out] | skip)
          have t0 : ((hn : Int) != (hn : Int)) = false := by simp
          go_wp2_with fail
          go_roundw
          case rel => exact ⟨k' + 1, hlt, by go_num, Lib.hid (ext_trans HXB.out (ext_trans hw2 hx3))⟩
          case measure => simp [intOf]; omega
        · have HXW := Lib.hid (ext_trans HX.out HXB.out)
          clear q0 qf
          by_cases g1 : cut < 0
          · have t1 : decide (cut < 0) = true := decide_eq_true g1
            clear g1
            go_wp2_with fail
            go_ret
            exact ⟨rfl, HXW.out⟩
          have t1 : decide (cut < 0) = false := decide_eq_false g1
          by_cases g2 : (L.length : Int) < cut
          · have t2 : decide ((L.length : Int) < cut) = true := decide_eq_true g2
            clear g1 g2
            go_wp2_with fail
            go_ret
            exact ⟨rfl, HXW.out⟩
          have t2 : decide ((L.length : Int) < cut) = false := decide_eq_false g2
          obtain ⟨m, rfl⟩ : ∃ m : Nat, cut = (m : Int) := ⟨cut.toNat, by omega⟩
          have hm : m ≤ L.length := by omega
          have t1b : decide (m < 0) = false := decide_eq_false (by omega)
          have t2b : decide (L.length < m) = false := decide_eq_false (by omega)
          have HP0 := Lib.hid (fun (W : World) (hx : Ext wr W) => pull0_any ((HR.out.ext gNo HXB.out).ext gNo hx) HC.out hm)
          have HP1 := Lib.hid (fun (W : World) (hx : Ext wr W) => pull1_any ((HR.out.ext gNo HXB.out).ext gNo hx) HC.out hm)
          have HRR := Lib.hid (HR.out.ext gNo HXB.out)
          have HMM := Lib.hid hm
          obtain ⟨i0, hi0, hz0, hz1', hz2⟩ := info_parts info_noG
          have HJ := Lib.hid hi0
          have HZ0 := Lib.hid hz0
          have HZ1 := Lib.hid hz1'
          have HZ2 := Lib.hid hz2
          have HTK := Lib.hid (show (L.take m).length ≤ 1000 ∧ (L.drop m).length ≤ 300 ∧ L.take m ++ L.drop m = L from ⟨by rw [List.length_take]; omega, by rw [List.length_drop]; omega, List.take_append_drop m L⟩)
          clear hi0 hz0 hz1' hz2 g1 g2 hm HR HC HX HXB
          generalize L.take m = la at *
          generalize L.drop m = lb at *
          go_upto_region 23 with (first | (go_at_call 16; ((with_reducible refine (HP0.out _ extA).mono ?_); rintro e w5 ⟨u5, rfl, hu5, hx5⟩; obtain ⟨a5, n5, c5, rfl⟩ := hu5.slice; have z0 := hx5.cl rb 0 (.slice a3 L.length c3); have hr5 := hx5.lt rb; have HXP := Lib.hid (show Ext wr w5 from ext_trans extA hx5); have HV5' := Lib.hid hu5; clear hu5 HP0)) | (go_at_call 16; go_must ((with_reducible refine (HP1.out _ (ext_trans HXP.out extA)).mono ?_); rintro e w6 ⟨u6, rfl, hu6, hx6⟩; obtain ⟨a6, n6, c6, rfl⟩ := hu6.slice; have z1 := hx6.cl rb 0 (.slice a3 L.length c3); have hr6 := hx6.lt rb; have HXQ := Lib.hid (show Ext wr w6 from ext_trans (ext_trans HXP.out extA) hx6); have HV5 := Lib.hid (HV5'.out.ext gNo (show Ext w5 w6 from ext_trans extA hx6)); have HV6 := Lib.hid hu6; clear hu6 HP1 HV5')))
          refine wp_name (fun W5 eW5 => ?_)
          have e0 : W5.cell? ⟨rb, 0, none⟩ = some (.slice a3 L.length c3) := by rw [eW5]; go_simp
          have HX5 := Lib.hid (show Ext wr W5 by rw [eW5]; exact ext_trans HXQ.out extA)
          have HLA := Lib.hid (fun (W : World) (hx : Ext W5 W) => (RSl.more gNo (G := fun j => j < W5.heap.size) (fun _ _ h => h) (show RSl RNo 4 _ W5 (.slice a5 n5 c5) la from by rw [eW5]; exact HV5.out.ext gNo extA)).ext gNo hx)
          have HLB := Lib.hid (fun (W : World) (hx : Ext W5 W) => (RSl.more gNo (G := fun j => j < W5.heap.size) (fun _ _ h => h) (show RSl RNo 4 _ W5 (.slice a6 n6 c6) lb from by rw [eW5]; exact HV6.out.ext gNo extA)).ext gNo hx)
          have z5 : rb < W5.heap.size := World.block_lt_of_cell? _ _ e0
          clear eW5 HV5 HV6 HXP HXQ x0
          go_region_held3 (fun W => W.cell? ⟨rb, 0, none⟩ = some (.slice a3 L.length c3)) (first | (with_reducible exact e0) | (with_reducible exact (HX8.out.cells _ _ z5).trans e0) | (with_reducible exact (HX9.out.cells _ _ z5).trans e0) | (with_reducible exact (HX10.out.cells _ _ z5).trans e0) | go_keep) (first | ((refine step_appAllG gNo (by rfl) (.tmp 112) (.tmp 113) 36 rfl W5.heap.size 25 i0 _ 4 64 Try.underlying36 HJ.out HZ0.out HZ1.out HZ2.out rfl (by omega) (F := fun _ => True) (G := fun j => j < W5.heap.size) _ [] rfl (osl_emp extA (by first | rfl | simp) (by first | omega | (simp <;> omega))) (.slice a5 n5 c5) la rfl (HLA.out _ extA) one_noG (fun j hj _ => ⟨trivial, ne_own (by have hj' : j < W5.heap.size := hj; first | omega | (simp <;> omega))⟩) (noG_l0 HTK.out.1) (noG_b0 HTK.out.1) (by first | omega | (simp <;> omega)) ?_); intro v8 w8 hown8 hg8 hat8; have HX8 := Lib.hid (show Ext W5 w8 from ext_grow (show Ext W5 _ from extA) hg8 (fun j hj => (by have := own_eq hj; (try simp at this); omega))); have hs8 : W5.heap.size ≤ w8.heap.size := HX8.out.size; obtain ⟨a8, n8, c8, rfl⟩ := osl_slice hown8; have HOL8 := Lib.hid (osl_lt hown8); have HO8 := Lib.hid (show OSl RNo 4 25 W5.heap.size (fun _ => True) w8 (.slice a8 n8 c8) la from hown8); clear hg8 hat8 hown8) | ((refine step_appAllG gNo (by rfl) (.tmp 114) (.tmp 115) 36 rfl W5.heap.size 25 i0 _ 4 64 Try.underlying36 HJ.out HZ0.out HZ1.out HZ2.out rfl (by omega) (F := fun _ => True) (G := fun j => j < W5.heap.size) (.slice a8 n8 c8) la rfl (osl_ext gNo HO8.out extA) (.slice a6 n6 c6) lb rfl (HLB.out _ (ext_trans HX8.out extA)) one_noG (fun j hj _ => ⟨trivial, fun e => (by have h1 := (HOL8.out j e.symm).1; have hj' : j < W5.heap.size := hj; omega)⟩) (noG_lx HTK.out.1 HTK.out.2.1) (noG_bx HTK.out.1 HTK.out.2.1) (by first | omega | (simp <;> omega)) ?_); intro v9 w9 hown9 hg9 hat9; obtain ⟨a9, n9, c9, rfl⟩ := osl_slice hown9; have HX9 := Lib.hid (show Ext W5 w9 from ext_grow (ext_trans HX8.out extA) hg9 (fun j hj => (HOL8.out j hj).1)); have HO9 := Lib.hid (show RSl RNo 4 (fun _ => True) w9 (.slice a9 n9 c9) L from by rw [← HTK.out.2.2]; exact osl_rsl gNo hown9 (fun _ _ _ => trivial) (fun _ _ => trivial)); clear hg9 hat9 hown9) | (go_at_call 21; go_must ((with_reducible refine (sameNotes_any (HO9.out.ext gNo extA) ((HRR.out.ext gNo HX5.out).ext gNo (ext_trans HX9.out extA))).mono ?_); rintro e w10 ⟨rfl, hx10⟩; have HX10 := Lib.hid (show Ext W5 w10 from ext_trans (ext_trans HX9.out extA) hx10))))
          go_wp2_with fail
          go_ret
          exact ⟨rfl, ext_trans HXW.out (ext_trans HX5.out (ext_trans HX10.out extA))⟩
end Go.Proofs.Ytiladkinndgeaaa
