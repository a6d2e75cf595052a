/- Numbers of one byte or two, read. -/
import Derived.Test.YtiladkinndgeaaaQ10e2d1903b
import Derived.Laws.BitsLemmas
import Derived.Deep.RegionLaw
import Derived.Deep.RegionHeld3
import Derived.Deep.Cut
import Derived.Test.YtiladkinndgeaaaQa28958c9c8
import Derived.Test.YtiladkinndgeaaaQ3d8d5b10c6
import Derived.Test.YtiladkinndgeaaaQ9649f021f5
set_option linter.unusedVariables false
set_option linter.unusedSimpArgs false
namespace Go.Proofs.Ytiladkinndgeaaa
open Go Go.RowKit Go.BigFrame Cp

theorem or8 (x y : Int) (hx₀ : 0 ≤ x) (hx : x % 256 = 0) (hx₁ : x < 100000) (hy₀ : 0 ≤ y) (hy : y < 256) : bits .or .i64 x y = x + y :=
  bits_join .i64 62 (by decide) (fun n h0 h1 => by rw [IntWalk.i64_left]; exact IntWalk.wrap64_in n (by omega)) 8 x y hx₀ hx (by omega) hy₀ hy (by omega)
theorem byte_in (c : UInt8) : 0 ≤ (c.toNat : Int) ∧ (c.toNat : Int) < 256 := ⟨by omega, by have := c.toNat_lt; omega⟩
theorem wrap_byte (c : UInt8) : wrap64 (c.toNat : Int) = c.toNat := by have := byte_in c; exact IntWalk.wrap64_in _ (by omega)
theorem or_one (c : UInt8) : bits .or .i64 0 (wrap64 (c.toNat : Int)) = leN [c] := by
  have := byte_in c
  rw [wrap_byte, or8 _ _ (by decide) (by decide) (by decide) this.1 this.2]
  simp [leN]
theorem or_two (c d : UInt8) : bits .or .i64 (wrap64 (bits .or .i64 0 (wrap64 (d.toNat : Int)) * 256)) (wrap64 (c.toNat : Int)) = leN [c, d] := by
  have hc := byte_in c
  have hd := byte_in d
  rw [or_one, wrap_byte]
  have e : leN [d] = d.toNat := by simp [leN]
  rw [e, IntWalk.wrap64_in _ (by omega), or8 _ _ (by omega) (by omega) (by omega) hc.1 hc.2]
  simp [leN]
  omega
def IsNum (b : Nat) (x : Int × PS) (w : World) (e : Ending) (w' : World) : Prop := e = .returned (.int .i64 x.1) ∧ RdAt b x.2 w' ∧ Kept (But b) w w'
theorem by_eq {q : ByteArray} {l : Tx} (h : q.data.toList = l) : q = ⟨l.toArray⟩ := by
  obtain ⟨⟨d⟩⟩ := q
  have h' : d = l := h
  subst h'; rfl
theorem numP_is {k : Nat} {r : PS} {l : Tx} (h : (takeP k r).1 = l) : numP k r = (leN l, (takeP k r).2) := by unfold numP; rw [h]
set_option maxRecDepth 100000 in
set_option maxHeartbeats 4000000 in
theorem num1_any {w : World} {b : Nat} {r : PS} (h : RdAt b r w) :
    Calls Try.prog 25 #[.pointer (some ⟨b, 0, none⟩), .int .i64 1] w (IsNum b (numP 1 r) w) := by
  have HTK := takeR_any (n := 1) h (by decide)
  rw [show ((1 : Nat) : Int) = 1 from rfl] at HTK
  obtain ⟨t, sh⟩ := r
  cases t with
  | nil =>
    have e : (takeP (1 : Nat) (([] : Tx), sh)).1 = [] := by rw [show ((1 : Nat) : Int) = 1 from rfl, take1_nil]
    rw [numP_is e]
    have HT := Lib.hid (HTK.mono (R' := fun e w' => e = .returned (.string ⟨#[]⟩) ∧ RdAt b (takeP (1 : Nat) (([] : Tx), sh)).2 w' ∧ Kept (But b) w w') (fun en w' ⟨q, he, hq, hr, hk⟩ => ⟨by rw [he, by_eq (hq.trans e)], hr, hk⟩))
    clear HTK e h
    go_enter Try.func25, Try.ntmps25
    go_wp2_with (first | (go_at_call 50; go_must ((with_reducible refine (HT.out).mono ?_); rintro e w1 ⟨rfl, hr1, hk1⟩; skip)))
    refine wp_loop_rounds 1 ?_
    rw [rounds_succ]
    go_wp2_with fail
    go_ret
    exact ⟨rfl, hr1, hk1⟩
  | cons c t =>
    have e : (takeP (1 : Nat) (c :: t, sh)).1 = [c] := by rw [show ((1 : Nat) : Int) = 1 from rfl, take1_cons]
    rw [numP_is e]
    have HT := Lib.hid (HTK.mono (R' := fun e w' => e = .returned (.string ⟨#[c]⟩) ∧ RdAt b (takeP (1 : Nat) (c :: t, sh)).2 w' ∧ Kept (But b) w w') (fun en w' ⟨q, he, hq, hr, hk⟩ => ⟨by rw [he, by_eq (hq.trans e)], hr, hk⟩))
    clear HTK e h
    go_enter Try.func25, Try.ntmps25
    go_wp2_with (first | (go_at_call 50; go_must ((with_reducible refine (HT.out).mono ?_); rintro e w1 ⟨rfl, hr1, hk1⟩; skip)))
    refine wp_loop_rounds 2 ?_
    rw [rounds_succ]
    go_wp2_with fail
    rw [rounds_succ]
    go_wp2_with fail
    go_ret
    exact ⟨ri (or_one c), hr1, hk1⟩
set_option maxRecDepth 100000 in
set_option maxHeartbeats 4000000 in
theorem num2_any {w : World} {b : Nat} {r : PS} (h : RdAt b r w) :
    Calls Try.prog 25 #[.pointer (some ⟨b, 0, none⟩), .int .i64 2] w (IsNum b (numP 2 r) w) := by
  have HTK := takeR_any (n := 2) h (by decide)
  rw [show ((2 : Nat) : Int) = 2 from rfl] at HTK
  obtain ⟨t, sh⟩ := r
  match t with
  | [] =>
    have e : (takeP (2 : Nat) (([] : Tx), sh)).1 = [] := by rw [show ((2 : Nat) : Int) = 2 from rfl, take2_nil]
    rw [numP_is e]
    have HT := Lib.hid (HTK.mono (R' := fun e w' => e = .returned (.string ⟨#[]⟩) ∧ RdAt b (takeP (2 : Nat) (([] : Tx), sh)).2 w' ∧ Kept (But b) w w') (fun en w' ⟨q, he, hq, hr, hk⟩ => ⟨by rw [he, by_eq (hq.trans e)], hr, hk⟩))
    clear HTK e h
    go_enter Try.func25, Try.ntmps25
    go_wp2_with (first | (go_at_call 50; go_must ((with_reducible refine (HT.out).mono ?_); rintro e w1 ⟨rfl, hr1, hk1⟩; skip)))
    refine wp_loop_rounds 1 ?_
    rw [rounds_succ]
    go_wp2_with fail
    go_ret
    exact ⟨rfl, hr1, hk1⟩
  | [c] =>
    have e : (takeP (2 : Nat) ([c], sh)).1 = [] := by rw [show ((2 : Nat) : Int) = 2 from rfl, take2_one]
    rw [numP_is e]
    have HT := Lib.hid (HTK.mono (R' := fun e w' => e = .returned (.string ⟨#[]⟩) ∧ RdAt b (takeP (2 : Nat) ([c], sh)).2 w' ∧ Kept (But b) w w') (fun en w' ⟨q, he, hq, hr, hk⟩ => ⟨by rw [he, by_eq (hq.trans e)], hr, hk⟩))
    clear HTK e h
    go_enter Try.func25, Try.ntmps25
    go_wp2_with (first | (go_at_call 50; go_must ((with_reducible refine (HT.out).mono ?_); rintro e w1 ⟨rfl, hr1, hk1⟩; skip)))
    refine wp_loop_rounds 1 ?_
    rw [rounds_succ]
    go_wp2_with fail
    go_ret
    exact ⟨rfl, hr1, hk1⟩
  | c :: d :: t =>
    have e : (takeP (2 : Nat) (c :: d :: t, sh)).1 = [c, d] := by rw [show ((2 : Nat) : Int) = 2 from rfl, take2_cons]
    rw [numP_is e]
    have HT := Lib.hid (HTK.mono (R' := fun e w' => e = .returned (.string ⟨#[c, d]⟩) ∧ RdAt b (takeP (2 : Nat) (c :: d :: t, sh)).2 w' ∧ Kept (But b) w w') (fun en w' ⟨q, he, hq, hr, hk⟩ => ⟨by rw [he, by_eq (hq.trans e)], hr, hk⟩))
    clear HTK e h
    go_enter Try.func25, Try.ntmps25
    go_wp2_with (first | (go_at_call 50; go_must ((with_reducible refine (HT.out).mono ?_); rintro e w1 ⟨rfl, hr1, hk1⟩; skip)))
    refine wp_loop_rounds 3 ?_
    rw [rounds_succ]
    go_wp2_with fail
    rw [rounds_succ]
    go_wp2_with fail
    rw [rounds_succ]
    go_wp2_with fail
    go_ret
    exact ⟨ri (or_two c d), hr1, hk1⟩
end Go.Proofs.Ytiladkinndgeaaa
/- So often, as long as there is enough to read. -/
namespace Go.Proofs.Ytiladkinndgeaaa
open Go Go.RowKit Go.BigFrame Cp

theorem times_zero {α : Type} {f : PS → α × PS} {r : PS} : timesP f 0 r = ([], r) := rfl
theorem times_bad {α : Type} {f : PS → α × PS} {m : Nat} {r : PS} (h : r.2 = true) : timesP f m r = ([], r) := by
  cases m with
  | zero => rfl
  | succ m => unfold timesP; rw [if_pos h]
theorem times_good {α : Type} {f : PS → α × PS} {m : Nat} {r : PS} (h : r.2 = false) : timesP f (m + 1) r = ((f r).1 :: (timesP f m (f r).2).1, (timesP f m (f r).2).2) := by
  show (if r.2 = true then _ else _) = _
  rw [if_neg (by rw [h]; simp)]
set_option maxRecDepth 100000 in
set_option maxHeartbeats 4000000 in
theorem timesMk_any {α : Type} {f : PS → α × PS} {Inv : List α → PS → World → Prop} {b p q lim : Nat} (hI : ∀ l r W, Inv l r W → RdAt b r W) (hE : ∀ l r W W', Inv l r W → Ext W W' → Inv l r W')
    (hS : ∀ l r W, l.length < lim → r.2 = false → Inv l r W → Calls Try.prog 67 #[.pointer (some ⟨p, 0, none⟩), .pointer (some ⟨q, 0, none⟩)] W fun e w' => e = .returned (.tuple #[]) ∧ Inv (l ++ [(f r).1]) (f r).2 w')
    {w : World} {n : Nat} {r : PS} (hn : n ≤ lim) (hl : lim ≤ 1000) (h : Inv [] r w) :
    Calls Try.prog 26 #[.pointer (some ⟨b, 0, none⟩), .int .i64 n, .func (.func 67) #[] #[.pointer (some ⟨p, 0, none⟩), .pointer (some ⟨q, 0, none⟩)]] w fun e w' => e = .returned (.tuple #[]) ∧ Inv (timesP f n r).1 (timesP f n r).2 w' := by
  have HI := Lib.hid hI
  have HS := Lib.hid hS
  have HE := Lib.hid hE
  have H := Lib.hid h
  clear hI hS hE h
  go_enter Try.func26, Try.ntmps26
  go_wp2_with fail
  go_loopw [1] (fun nv wr => ∃ (m : Nat) (l : List α) (r' : PS), l.length + m = n ∧ nv = .int .i64 m ∧ Hid (Inv l r' wr) ∧ Hid (l ++ (timesP f m r').1 = (timesP f n r).1 ∧ (timesP f m r').2 = (timesP f n r).2)) (fun nv _ => (intOf nv).toNat)
  case atStart => exact ⟨n, [], r, by simp, rfl, Lib.hid (HE.out _ _ _ _ H.out extA), Lib.hid ⟨rfl, rfl⟩⟩
  case round =>
    obtain ⟨m, l, r', hlm, rfl, HV, HQ⟩ := hrel
    obtain ⟨_, hsh, _, _, _⟩ := HI.out _ _ _ HV.out
    have hbr : b < wr.heap.size := World.block_lt_of_cell? _ _ hsh
    have hm1000 : m ≤ 1000 := by omega
    cases m with
    | zero =>
      obtain ⟨q1, q2⟩ := HQ.out
      rw [times_zero, List.append_nil] at q1
      rw [times_zero] at q2
      have HV' := Lib.hid (show Inv (timesP f n r).1 (timesP f n r).2 wr by rw [← q1, ← q2]; exact HV.out)
      clear q1 q2 hlm
      go_wp2_with fail
      go_end0
      exact ⟨rfl, HE.out _ _ _ _ HV'.out extA⟩
    | succ m =>
      cases hr : r'.2 with
      | true =>
        obtain ⟨q1, q2⟩ := HQ.out
        rw [times_bad hr, List.append_nil] at q1
        rw [times_bad hr] at q2
        have HV' := Lib.hid (show Inv (timesP f n r).1 (timesP f n r).2 wr by rw [← q1, ← q2]; exact HV.out)
        rw [hr] at hsh
        clear q1 q2 hlm hr
        go_wp2_with fail
        go_end0
        exact ⟨rfl, HE.out _ _ _ _ HV'.out extA⟩
      | false =>
        have HQ' := Lib.hid (show (l ++ [(f r').1]) ++ (timesP f m (f r').2).1 = (timesP f n r).1 ∧ (timesP f m (f r').2).2 = (timesP f n r).2 by
          have := HQ.out
          rw [times_good hr] at this
          exact ⟨by rw [← this.1]; simp, this.2⟩)
        have HC := Lib.hid (fun (W : World) (hx : Ext wr W) => HS.out l r' W (by omega) hr (HE.out _ _ _ _ HV.out hx))
        have HLM := Lib.hid (show (l ++ [(f r').1]).length + m = n by rw [List.length_append]; simp; omega)
        rw [hr] at hsh
        clear hlm hr
        go_wp2_with (first | (go_at_call 67; go_must ((with_reducible refine (HC.out _ extA).mono ?_); rintro e w1 ⟨rfl, hv1⟩; skip)))
        go_roundw
        case rel => exact ⟨m, _, _, HLM.out, by go_num, Lib.hid (HE.out _ _ _ _ hv1 extA), HQ'⟩
        case measure => simp [intOf]
set_option maxRecDepth 100000 in
set_option maxHeartbeats 4000000 in
theorem timesNe_any {α : Type} {f : PS → α × PS} {Inv : List α → PS → World → Prop} {b p q lim : Nat} (hI : ∀ l r W, Inv l r W → RdAt b r W) (hE : ∀ l r W W', Inv l r W → Ext W W' → Inv l r W')
    (hS : ∀ l r W, l.length < lim → r.2 = false → Inv l r W → Calls Try.prog 27 #[.pointer (some ⟨p, 0, none⟩), .pointer (some ⟨q, 0, none⟩)] W fun e w' => e = .returned (.tuple #[]) ∧ Inv (l ++ [(f r).1]) (f r).2 w')
    {w : World} {n : Nat} {r : PS} (hn : n ≤ lim) (hl : lim ≤ 1000) (h : Inv [] r w) :
    Calls Try.prog 26 #[.pointer (some ⟨b, 0, none⟩), .int .i64 n, .func (.func 27) #[] #[.pointer (some ⟨p, 0, none⟩), .pointer (some ⟨q, 0, none⟩)]] w fun e w' => e = .returned (.tuple #[]) ∧ Inv (timesP f n r).1 (timesP f n r).2 w' := by
  have HI := Lib.hid hI
  have HS := Lib.hid hS
  have HE := Lib.hid hE
  have H := Lib.hid h
  clear hI hS hE h
  go_enter Try.func26, Try.ntmps26
  go_wp2_with fail
  go_loopw [1] (fun nv wr => ∃ (m : Nat) (l : List α) (r' : PS), l.length + m = n ∧ nv = .int .i64 m ∧ Hid (Inv l r' wr) ∧ Hid (l ++ (timesP f m r').1 = (timesP f n r).1 ∧ (timesP f m r').2 = (timesP f n r).2)) (fun nv _ => (intOf nv).toNat)
  case atStart => exact ⟨n, [], r, by simp, rfl, Lib.hid (HE.out _ _ _ _ H.out extA), Lib.hid ⟨rfl, rfl⟩⟩
  case round =>
    obtain ⟨m, l, r', hlm, rfl, HV, HQ⟩ := hrel
    obtain ⟨_, hsh, _, _, _⟩ := HI.out _ _ _ HV.out
    have hbr : b < wr.heap.size := World.block_lt_of_cell? _ _ hsh
    have hm1000 : m ≤ 1000 := by omega
    cases m with
    | zero =>
      obtain ⟨q1, q2⟩ := HQ.out
      rw [times_zero, List.append_nil] at q1
      rw [times_zero] at q2
      have HV' := Lib.hid (show Inv (timesP f n r).1 (timesP f n r).2 wr by rw [← q1, ← q2]; exact HV.out)
      clear q1 q2 hlm
      go_wp2_with fail
      go_end0
      exact ⟨rfl, HE.out _ _ _ _ HV'.out extA⟩
    | succ m =>
      cases hr : r'.2 with
      | true =>
        obtain ⟨q1, q2⟩ := HQ.out
        rw [times_bad hr, List.append_nil] at q1
        rw [times_bad hr] at q2
        have HV' := Lib.hid (show Inv (timesP f n r).1 (timesP f n r).2 wr by rw [← q1, ← q2]; exact HV.out)
        rw [hr] at hsh
        clear q1 q2 hlm hr
        go_wp2_with fail
        go_end0
        exact ⟨rfl, HE.out _ _ _ _ HV'.out extA⟩
      | false =>
        have HQ' := Lib.hid (show (l ++ [(f r').1]) ++ (timesP f m (f r').2).1 = (timesP f n r).1 ∧ (timesP f m (f r').2).2 = (timesP f n r).2 by
          have := HQ.out
          rw [times_good hr] at this
          exact ⟨by rw [← this.1]; simp, this.2⟩)
        have HC := Lib.hid (fun (W : World) (hx : Ext wr W) => HS.out l r' W (by omega) hr (HE.out _ _ _ _ HV.out hx))
        have HLM := Lib.hid (show (l ++ [(f r').1]).length + m = n by rw [List.length_append]; simp; omega)
        rw [hr] at hsh
        clear hlm hr
        go_wp2_with (first | (go_at_call 27; go_must ((with_reducible refine (HC.out _ extA).mono ?_); rintro e w1 ⟨rfl, hv1⟩; skip)))
        go_roundw
        case rel => exact ⟨m, _, _, HLM.out, by go_num, Lib.hid (HE.out _ _ _ _ hv1 extA), HQ'⟩
        case measure => simp [intOf]
set_option maxRecDepth 100000 in
set_option maxHeartbeats 4000000 in
theorem timesDe_any {α : Type} {f : PS → α × PS} {Inv : List α → PS → World → Prop} {b p q lim : Nat} (hI : ∀ l r W, Inv l r W → RdAt b r W) (hE : ∀ l r W W', Inv l r W → Ext W W' → Inv l r W')
    (hS : ∀ l r W, l.length < lim → r.2 = false → Inv l r W → Calls Try.prog 28 #[.pointer (some ⟨p, 0, none⟩), .pointer (some ⟨q, 0, none⟩)] W fun e w' => e = .returned (.tuple #[]) ∧ Inv (l ++ [(f r).1]) (f r).2 w')
    {w : World} {n : Nat} {r : PS} (hn : n ≤ lim) (hl : lim ≤ 1000) (h : Inv [] r w) :
    Calls Try.prog 26 #[.pointer (some ⟨b, 0, none⟩), .int .i64 n, .func (.func 28) #[] #[.pointer (some ⟨p, 0, none⟩), .pointer (some ⟨q, 0, none⟩)]] w fun e w' => e = .returned (.tuple #[]) ∧ Inv (timesP f n r).1 (timesP f n r).2 w' := by
  have HI := Lib.hid hI
  have HS := Lib.hid hS
  have HE := Lib.hid hE
  have H := Lib.hid h
  clear hI hS hE h
  go_enter Try.func26, Try.ntmps26
  go_wp2_with fail
  go_loopw [1] (fun nv wr => ∃ (m : Nat) (l : List α) (r' : PS), l.length + m = n ∧ nv = .int .i64 m ∧ Hid (Inv l r' wr) ∧ Hid (l ++ (timesP f m r').1 = (timesP f n r).1 ∧ (timesP f m r').2 = (timesP f n r).2)) (fun nv _ => (intOf nv).toNat)
  case atStart => exact ⟨n, [], r, by simp, rfl, Lib.hid (HE.out _ _ _ _ H.out extA), Lib.hid ⟨rfl, rfl⟩⟩
  case round =>
    obtain ⟨m, l, r', hlm, rfl, HV, HQ⟩ := hrel
    obtain ⟨_, hsh, _, _, _⟩ := HI.out _ _ _ HV.out
    have hbr : b < wr.heap.size := World.block_lt_of_cell? _ _ hsh
    have hm1000 : m ≤ 1000 := by omega
    cases m with
    | zero =>
      obtain ⟨q1, q2⟩ := HQ.out
      rw [times_zero, List.append_nil] at q1
      rw [times_zero] at q2
      have HV' := Lib.hid (show Inv (timesP f n r).1 (timesP f n r).2 wr by rw [← q1, ← q2]; exact HV.out)
      clear q1 q2 hlm
      go_wp2_with fail
      go_end0
      exact ⟨rfl, HE.out _ _ _ _ HV'.out extA⟩
    | succ m =>
      cases hr : r'.2 with
      | true =>
        obtain ⟨q1, q2⟩ := HQ.out
        rw [times_bad hr, List.append_nil] at q1
        rw [times_bad hr] at q2
        have HV' := Lib.hid (show Inv (timesP f n r).1 (timesP f n r).2 wr by rw [← q1, ← q2]; exact HV.out)
        rw [hr] at hsh
        clear q1 q2 hlm hr
        go_wp2_with fail
        go_end0
        exact ⟨rfl, HE.out _ _ _ _ HV'.out extA⟩
      | false =>
        have HQ' := Lib.hid (show (l ++ [(f r').1]) ++ (timesP f m (f r').2).1 = (timesP f n r).1 ∧ (timesP f m (f r').2).2 = (timesP f n r).2 by
          have := HQ.out
          rw [times_good hr] at this
          exact ⟨by rw [← this.1]; simp, this.2⟩)
        have HC := Lib.hid (fun (W : World) (hx : Ext wr W) => HS.out l r' W (by omega) hr (HE.out _ _ _ _ HV.out hx))
        have HLM := Lib.hid (show (l ++ [(f r').1]).length + m = n by rw [List.length_append]; simp; omega)
        rw [hr] at hsh
        clear hlm hr
        go_wp2_with (first | (go_at_call 28; go_must ((with_reducible refine (HC.out _ extA).mono ?_); rintro e w1 ⟨rfl, hv1⟩; skip)))
        go_roundw
        case rel => exact ⟨m, _, _, HLM.out, by go_num, Lib.hid (HE.out _ _ _ _ hv1 extA), HQ'⟩
        case measure => simp [intOf]
end Go.Proofs.Ytiladkinndgeaaa
/- A mark's bytes, read. -/
namespace Go.Proofs.Ytiladkinndgeaaa
open Go Go.RowKit Go.BigFrame Cp

theorem num1_nat (r : PS) : ∃ n : Nat, (numP 1 r).1 = n ∧ n ≤ 255 := by
  obtain ⟨t, s⟩ := r
  cases t with
  | nil => exact ⟨0, by unfold numP; rw [show ((1 : Nat) : Int) = 1 from rfl, take1_nil]; rfl, by omega⟩
  | cons c t => exact ⟨c.toNat, by unfold numP; rw [show ((1 : Nat) : Int) = 1 from rfl, take1_cons]; simp [leN], by have := c.toNat_lt; omega⟩
theorem num2_nat (r : PS) : ∃ n : Nat, (numP 2 r).1 = n ∧ n ≤ 65535 := by
  obtain ⟨t, s⟩ := r
  match t with
  | [] => exact ⟨0, by unfold numP; rw [show ((2 : Nat) : Int) = 2 from rfl, take2_nil]; rfl, by omega⟩
  | [c] => exact ⟨0, by unfold numP; rw [show ((2 : Nat) : Int) = 2 from rfl, take2_one]; rfl, by omega⟩
  | c :: d :: t => exact ⟨c.toNat + 256 * d.toNat, by unfold numP; rw [show ((2 : Nat) : Int) = 2 from rfl, take2_cons]; simp [leN]; omega, by have := c.toNat_lt; have := d.toNat_lt; omega⟩
theorem num1_i64 (r : PS) : I64 (numP 1 r).1 := by obtain ⟨n, e, h⟩ := num1_nat r; rw [e]; exact ⟨by omega, by omega⟩
theorem num2_i64 (r : PS) : I64 (numP 2 r).1 := by obtain ⟨n, e, h⟩ := num2_nat r; rw [e]; exact ⟨by omega, by omega⟩
/-- a mark's steps, so far: in a box of its own -/
structure MInv (w0 : World) (N b p q : Nat) (l : List Stp) (r : PS) (W : World) : Prop where
  rd : RdAt b r W
  pt : W.cell? ⟨p, 0, none⟩ = some (.pointer (some ⟨b, 0, none⟩))
  ck : W.cell? ⟨q, 1, none⟩ = some (.int .i64 0)
  fz : W.frozen? ⟨q, 0, none⟩ = false ∧ W.frozen? ⟨q, 1, none⟩ = false
  ow : ∃ u, W.cell? ⟨q, 0, none⟩ = some u ∧ OSl RStp 2 96 (q + 1) (fun _ => True) W u l
  kp : Kept (fun k => k < N ∧ k ≠ b) w0 W
  lt : b < p ∧ p < q ∧ N ≤ q
theorem minv_ext {w0 : World} {N b p q : Nat} (l : List Stp) (r : PS) (W W' : World) (h : MInv w0 N b p q l r W) (hx : Ext W W') : MInv w0 N b p q l r W' := by
  have hp := World.block_lt_of_cell? _ _ h.pt
  have hq := World.block_lt_of_cell? _ _ h.ck
  obtain ⟨u, h1, h2⟩ := h.ow
  exact ⟨rdAt_ext h.rd hx, (hx.cells _ _ hp).trans h.pt, (hx.cells _ _ hq).trans h.ck, ⟨(hx.frz _ _ hq).trans h.fz.1, (hx.frz _ _ hq).trans h.fz.2⟩, ⟨u, (hx.cells _ _ hq).trans h1, osl_ext gStp h2 hx⟩, kept_trans h.kp (kept_ext hx), h.lt⟩
theorem osl_keptS {e B b : Nat} {F : Nat → Prop} {w w' : World} {v : Value} {l : List Stp} (h : OSl RStp 2 e B F w v l) (hk : Kept (But b) w w') (hb : b < B) : OSl RStp 2 e B F w' v l :=
  osl_lkeep lf_stp h fun k hk' => by have := osl_lt h k hk'; exact hk.block k (show k ≠ b by omega) this.2
theorem stp_len {a : Nat} (h : a ≤ 500) : a + 1 ≤ maxLen := Nat.le_trans (by omega : a + 1 ≤ 501) (by unfold maxLen; decide)
theorem stp_byt {a : Nat} (h : a ≤ 500) : (a + 1) * 16 ≤ 140737488355328 := by omega
theorem minv_cell {q : Nat} {l : List Stp} {w w1 w2 : World} {v : Value} (ho : OSl RStp 2 96 (q + 1) (fun _ => True) w v l) (hc : w.cell? ⟨q, 0, none⟩ = some v) (hf : w.frozen? ⟨q, 0, none⟩ = false) (hg : w1.grownBy w2 v.ownBlock) (hx : Ext w w1) :
    w2.cell? ⟨q, 0, none⟩ = some v ∧ w2.frozen? ⟨q, 0, none⟩ = false := by
  have hq := World.block_lt_of_cell? _ _ hc
  have hqw : q < w1.heap.size := Nat.lt_of_lt_of_le hq hx.size
  have hqo : some q ≠ v.ownBlock := fun e => by have := (osl_lt ho q e.symm).1; omega
  exact ⟨(World.cell?_of_block (a := ⟨q, 0, none⟩) (hg.block q hqw hqo)).trans ((hx.cells _ _ hq).trans hc), (World.frozen?_of_block (a := ⟨q, 0, none⟩) (hg.block q hqw hqo)).trans ((hx.frz _ _ hq).trans hf)⟩
/-- behind a step more -/
theorem minv_store {w0 w W2 w3 w4 w5 : World} {N b p q : Nat} {l l' : List Stp} {r r3 : PS} {v : Value} {x : Option Addr} {n c : Nat} (h : MInv w0 N b p q l r w) (k2 : Kept (But b) w W2) (k3 : Kept (But b) W2 w3) (hr : RdAt b r3 w3)
    (hg : w4.grownBy w5 v.ownBlock) (hx : Ext w3 w4) (hat : (Value.slice x n c).ownBlock = v.ownBlock ∨ (Value.slice x n c).ownBlock = some w4.heap.size)
    (ho : OSl RStp 2 96 (q + 1) (fun _ => True) w5 (.slice x n c) l') (hvl : ∀ j, v.ownBlock = some j → q + 1 ≤ j ∧ j < w3.heap.size) : MInv w0 N b p q l' r3 (w5.setCell ⟨q, 0, none⟩ (.slice x n c)) := by
  obtain ⟨lt1, lt2, lt3⟩ := h.lt
  have hb := rdAt_lt hr
  have k := kept_trans k2 k3
  have hpw := World.block_lt_of_cell? _ _ h.pt
  have hqw := World.block_lt_of_cell? _ _ h.ck
  have hs3 := k.size
  have hs4 := hx.size
  have hgk : Kept (fun j => j ≤ q) w3 w5 := kept_trans (kept_ext hx) (kept_grown hg (fun j hj e => by have := (hvl j e.symm).1; omega))
  have ho' : ∀ j, (Value.slice x n c).ownBlock = some j → q + 1 ≤ j := fun j hj => (osl_lt ho j hj).1
  have hk5 : Kept (fun j => j ≤ q ∧ j ≠ b) w w5 := kept_trans (k.less (fun j hj => hj.2)) (hgk.less (fun j hj => hj.1))
  have hset : ∀ j, j ≠ q → (w5.setCell ⟨q, 0, none⟩ (.slice x n c)).heap[j]? = w5.heap[j]? := fun j hj => Below.heap_setCell _ _ _ j (fun e => hj e)
  have hc0 : ∃ z, w5.cell? ⟨q, 0, none⟩ = some z := by
    obtain ⟨u, hu, _⟩ := h.ow
    exact ⟨u, (hk5.cell (show q ≤ q ∧ q ≠ b by omega) hqw 0).trans hu⟩
  obtain ⟨z, hz⟩ := hc0
  have hbl : ∀ j, j ≤ q → j ≠ b → j < w.heap.size → j ≠ q → (w5.setCell ⟨q, 0, none⟩ (.slice x n c)).heap[j]? = w.heap[j]? := fun j h1 h2 h3 h4 => (hset j h4).trans (hk5.block j ⟨h1, h2⟩ h3)
  have hrb : (w5.setCell ⟨q, 0, none⟩ (.slice x n c)).heap[b]? = w3.heap[b]? := (hset b (by omega)).trans (hgk.block b (show b ≤ q by omega) hb)
  refine ⟨?_, ?_, ?_, ⟨?_, ?_⟩, ⟨_, World.cell?_setCell_same _ _ _ hz, ?_⟩, ?_, h.lt⟩
  · obtain ⟨⟨s, h1, h2⟩, h3, h4, h5, h6⟩ := hr
    exact ⟨⟨s, (World.cell?_of_block (a := ⟨b, 0, none⟩) hrb).trans h1, h2⟩, (World.cell?_of_block (a := ⟨b, 1, none⟩) hrb).trans h3, (World.frozen?_of_block (a := ⟨b, 0, none⟩) hrb).trans h4, (World.frozen?_of_block (a := ⟨b, 1, none⟩) hrb).trans h5, h6⟩
  · exact (World.cell?_of_block (a := ⟨p, 0, none⟩) (hbl p (by omega) (by omega) hpw (by omega))).trans h.pt
  · rw [World.cell?_setCell_other (h := by intro e; injection e with _ e; cases e)]
    exact (hk5.cell (show q ≤ q ∧ q ≠ b by omega) hqw 1).trans h.ck
  · rw [World.frozen?_setCell]; exact (hk5.frz (show q ≤ q ∧ q ≠ b by omega) hqw 0).trans h.fz.1
  · rw [World.frozen?_setCell]; exact (hk5.frz (show q ≤ q ∧ q ≠ b by omega) hqw 1).trans h.fz.2
  · exact osl_lkeep lf_stp ho fun j hj => hset j (fun e => by have := ho' j hj; omega)
  · refine kept_set (kept_trans h.kp (hk5.less fun j hj => ⟨Nat.le_of_lt (Nat.lt_of_lt_of_le hj.1 (by omega)), hj.2⟩)) (fun hq => ?_) _
    exact absurd (show q < N from hq.1) (by omega)
set_option maxRecDepth 100000 in
set_option maxHeartbeats 4000000 in
theorem mark1_any {w0 w : World} {N b p q : Nat} {l : List Stp} {r : PS} (hl : l.length ≤ 500) (h : MInv w0 N b p q l r w) :
    Calls Try.prog 67 #[.pointer (some ⟨p, 0, none⟩), .pointer (some ⟨q, 0, none⟩)] w fun e w' => e = .returned (.tuple #[]) ∧ MInv w0 N b p q (l ++ [(stpP r).1]) (stpP r).2 w' := by
  have HM := Lib.hid h
  obtain ⟨hrd, hpt, hck, ⟨hf0, hf1⟩, ⟨u, hu, ho⟩, hkp, hlt1, hlt2, hlt3⟩ := h
  have hb := rdAt_lt hrd
  have hp := World.block_lt_of_cell? _ _ hpt
  have hq := World.block_lt_of_cell? _ _ hck
  have HN1 := Lib.hid (num1_any hrd)
  have HO := Lib.hid ho
  obtain ⟨a3, n3, c3, rfl⟩ := osl_slice ho
  obtain rfl := (osl_len ho).1
  have HOL := Lib.hid (osl_lt ho)
  have hpb : ¬ p = b := by omega
  have hqb : ¬ q = b := by omega
  have HI1 := Lib.hid (num1_i64 r)
  have HI2 := Lib.hid (num1_i64 (numP 1 r).2)
  have HS := Lib.hid (show stpP r = (((numP 1 r).1, (numP 1 (numP 1 r).2).1), (numP 1 (numP 1 r).2).2) from rfl)
  have HN2 := Lib.hid (fun (W : World) (h : RdAt b (numP 1 r).2 W) => num1_any h)
  generalize numP 1 (numP 1 r).2 = y at *
  generalize numP 1 r = x at *
  have HLL := Lib.hid hl
  obtain ⟨i0, hi0, hz0, hz1', hz2⟩ := info_parts info_step
  have HJ := Lib.hid hi0
  have HZ0 := Lib.hid hz0
  have HZ1 := Lib.hid hz1'
  have HZ2 := Lib.hid hz2
  clear hi0 hz0 hz1' hz2 ho hrd hkp hl
  go_enter Try.func67, Try.ntmps67
  go_upto_region 1 with (first | (go_at_call 25; go_must ((with_reducible refine (HN1.out).mono ?_); rintro e w1 ⟨rfl, hr1, hk1⟩; have p1 := (hk1.cell hpb hp 0).trans hpt; have q1 := (hk1.cell hqb hq 0).trans hu)))
  refine wp_name (fun W2 eW2 => ?_)
  have HK2 := Lib.hid (show Kept (But b) w W2 by rw [eW2]; exact kept_trans hk1 (kept_ext extA))
  have HR2 := Lib.hid (show RdAt b x.2 W2 by rw [eW2]; exact rdAt_ext hr1 extA)
  clear eW2 hk1 hr1
  have p2 := (HK2.out.cell hpb hp 0).trans hpt
  have q2 := (HK2.out.cell hqb hq 0).trans hu
  have f2 := (HK2.out.frz hqb hq 0).trans hf0
  have HO2 := Lib.hid (osl_keptS HO.out HK2.out (by omega))
  have hp2 : p < W2.heap.size := World.block_lt_of_cell? _ _ p2
  have hq2 : q < W2.heap.size := World.block_lt_of_cell? _ _ q2
  have hb2 : b < W2.heap.size := rdAt_lt HR2.out
  clear hpt hu hf0 HO HN1
  go_region_law (first | (go_simp; go_at_call 25; ((with_reducible refine (HN2.out _ (rdAt_ext HR2.out extA)).mono ?_); rintro e w3 ⟨rfl, hr3, hk3⟩; have HR3 := Lib.hid hr3; have HK3 := Lib.hid (show Kept (But b) W2 w3 from kept_trans (kept_ext extA) hk3); clear hk3 hr3; have q3 := (HK3.out.cell hqb hq2 0).trans q2; have f3 := (HK3.out.frz hqb hq2 0).trans f2; have HO3 := Lib.hid (osl_keptS HO2.out HK3.out (by omega)); have hq3 : q < w3.heap.size := World.block_lt_of_cell? _ _ q3; have hqn : ¬ q = w3.heap.size := (by omega))) | (refine step_appAll gStp rfl (.tmp 6) (.tmp 11) 54 rfl (q + 1) 96 i0 _ 2 16 Try.underlying54 HJ.out HZ0.out HZ1.out HZ2.out rfl (by omega) (F := fun _ => True) (G := fun j => j = w3.heap.size) (.slice a3 l.length c3) l rfl (osl_ext gStp HO3.out extA) (.slice (some ⟨w3.heap.size, 0, none⟩) 1 1) [(x.1, y.1)] rfl (rd_one rfl (rangeAt2 (by first | (with_reducible assumption) | go_simp) (by first | (with_reducible assumption) | go_simp)) (show RStp _ _ [_, _] (x.1, y.1) from ⟨rfl, HI1.out, HI2.out⟩) rfl (by first | omega | (simp <;> omega)) (Nat.le_refl _) (by unfold maxLen; omega)) one_stp (fun j hj _ => ⟨trivial, fun e => by have := (osl_lt HO3.out j e.symm).2; omega⟩) (stp_len HLL.out) (stp_byt HLL.out) (by first | omega | (simp <;> omega)) ?_; intro v9 w9 hown9 hg9 hat9; obtain ⟨a9, n9, c9, rfl⟩ := osl_slice hown9; have HFIN := Lib.hid (minv_store HM.out HK2.out HK3.out HR3.out hg9 extA hat9 hown9 (osl_lt HO3.out)); obtain ⟨hc9, hf9⟩ := minv_cell HO3.out q3 f3 hg9 extA; clear hg9 hat9 hown9))
  all_goals (go_wp2_with fail; go_end0)
  all_goals
    refine ⟨rfl, ?_⟩
    rw [HS.out]
    exact HFIN.out
end Go.Proofs.Ytiladkinndgeaaa
/- A mark that is read. -/
namespace Go.Proofs.Ytiladkinndgeaaa
open Go Go.RowKit Go.BigFrame Cp

/-- a mark in new memory, and what is left of the reader -/
def IsMkR (b : Nat) (x : Mk × PS) (w : World) (e : Ending) (w' : World) : Prop := ∃ v, e = .returned (.agg #[v, .int .i64 x.1.2]) ∧ RMk (fun k => w.heap.size ≤ k) w' [v, .int .i64 x.1.2] x.1 ∧ RdAt b x.2 w' ∧ Kept (But b) w w'
theorem rdAt_kept {b : Nat} {r : PS} {w w' : World} {Z : Nat → Prop} (h : RdAt b r w) (hk : Kept Z w w') (hz : Z b) : RdAt b r w' := by
  have hb := rdAt_lt h
  obtain ⟨⟨s, h1, h2⟩, h3, h4, h5, h6⟩ := h
  exact ⟨⟨s, (hk.cell hz hb 0).trans h1, h2⟩, (hk.cell hz hb 1).trans h3, (hk.frz hz hb 0).trans h4, (hk.frz hz hb 1).trans h5, h6⟩
theorem kept_lt {Z : Nat → Prop} {w w' : World} (h : Kept (fun k => k < w.heap.size ∧ Z k) w w') : Kept Z w w' := ⟨h.os, h.tape, h.output, h.size, fun k hk hl => h.block k ⟨hl, hk⟩ hl⟩
set_option maxRecDepth 100000 in
set_option maxHeartbeats 4000000 in
theorem markR_any {w : World} {b : Nat} {r : PS} (h : RdAt b r w) :
    Calls Try.prog 51 #[.pointer (some ⟨b, 0, none⟩)] w (IsMkR b (markP r) w) := by
  have hb := rdAt_lt h
  have hbp : ¬ b = w.heap.size := by omega
  have HR := Lib.hid h
  obtain ⟨n, hn, hn5⟩ := num1_nat r
  have HP := Lib.hid (show markP r = (((timesP stpP n (numP 1 r).2).1, (numP 2 (timesP stpP n (numP 1 r).2).2).1), (numP 2 (timesP stpP n (numP 1 r).2).2).2) by unfold markP; simp only; rw [hn, Int.toNat_natCast])
  have HN1 := Lib.hid (fun (W : World) (h : RdAt b r W) => (num1_any h).mono (R' := fun e w' => e = .returned (.int .i64 (n : Int)) ∧ RdAt b (numP 1 r).2 w' ∧ Kept (But b) W w') (fun e w' ⟨h1, h2, h3⟩ => ⟨by rw [h1, hn], h2, h3⟩))
  clear h hn
  go_enter Try.func51, Try.ntmps51
  go_upto_region 2 with fail
  refine wp_name (fun W1 eW1 => ?_)
  have p1 : W1.cell? ⟨w.heap.size, 0, none⟩ = some (.pointer (some ⟨b, 0, none⟩)) := by rw [eW1]; go_simp
  have r0 : W1.cell? ⟨w.heap.size + 1, 0, none⟩ = some (.slice none 0 0) := by rw [eW1]; go_simp
  have r1 : W1.cell? ⟨w.heap.size + 1, 1, none⟩ = some (.int .i64 0) := by rw [eW1]; go_simp
  have q0 : W1.cell? ⟨w.heap.size + 1 + 1, 0, none⟩ = some (.slice none 0 0) := by rw [eW1]; go_simp
  have q1 : W1.cell? ⟨w.heap.size + 1 + 1, 1, none⟩ = some (.int .i64 0) := by rw [eW1]; go_simp
  have f0 : W1.frozen? ⟨w.heap.size + 1 + 1, 0, none⟩ = false := by rw [eW1]; go_simp
  have f1 : W1.frozen? ⟨w.heap.size + 1 + 1, 1, none⟩ = false := by rw [eW1]; go_simp
  have g0 : W1.frozen? ⟨w.heap.size + 1, 0, none⟩ = false := by rw [eW1]; go_simp
  have g1 : W1.frozen? ⟨w.heap.size + 1, 1, none⟩ = false := by rw [eW1]; go_simp
  have HX1 := Lib.hid (show Ext w W1 by rw [eW1]; exact extA)
  have hs1 : W1.heap.size = w.heap.size + 1 + 1 + 1 := by rw [eW1]; simp
  clear eW1
  have HR1 := Lib.hid (rdAt_ext HR.out HX1.out)
  have hb1 : b < W1.heap.size := rdAt_lt HR1.out
  have HM := Lib.hid (fun (W : World) (r' : PS) (hk : Kept (But b) W1 W) (hr : RdAt b r' W) => (show MInv W1 (w.heap.size + 1 + 1) b w.heap.size (w.heap.size + 1 + 1) [] r' W from
    ⟨hr, (hk.cell (show w.heap.size ≠ b by omega) (by omega) 0).trans p1, (hk.cell (show w.heap.size + 1 + 1 ≠ b by omega) (by omega) 1).trans q1, ⟨(hk.frz (show w.heap.size + 1 + 1 ≠ b by omega) (by omega) 0).trans f0, (hk.frz (show w.heap.size + 1 + 1 ≠ b by omega) (by omega) 1).trans f1⟩, ⟨_, (hk.cell (show w.heap.size + 1 + 1 ≠ b by omega) (by omega) 0).trans q0, osl_nil⟩, hk.less (fun k hk => hk.2), by omega, by omega, by omega⟩))
  have HTI := Lib.hid (fun (W : World) (h : MInv W1 (w.heap.size + 1 + 1) b w.heap.size (w.heap.size + 1 + 1) [] (numP 1 r).2 W) => timesMk_any (f := stpP) (Inv := MInv W1 (w.heap.size + 1 + 1) b w.heap.size (w.heap.size + 1 + 1)) (lim := 255) (fun l r W h => h.rd) (fun l r W W' h hx => minv_ext l r W W' h hx) (fun l r W hl hr h => mark1_any (by omega) h) hn5 (by omega) h)
  go_cut [] from 9 (fun wx => Hid (MInv W1 (w.heap.size + 1 + 1) b w.heap.size (w.heap.size + 1 + 1) (timesP stpP n (numP 1 r).2).1 (timesP stpP n (numP 1 r).2).2 wx))
  case first =>
    clear HP
    generalize timesP stpP n (numP 1 r).2 = tm at *
    generalize (numP 1 r).2 = r2 at *
    go_region_held3 (fun W => W.cell? ⟨w.heap.size, 0, none⟩ = some (.pointer (some ⟨b, 0, none⟩)))
      (first | (exact hv4.pt) | (exact (HK3.out.cell (show w.heap.size ≠ b by omega) (by omega) 0).trans p1) | (with_reducible assumption) | go_keep) (first | (go_at_call 25; go_must ((with_reducible refine (HN1.out _ (rdAt_ext HR1.out extA)).mono ?_); rintro e w3 ⟨rfl, hr3, hk3⟩; have HR3 := Lib.hid hr3; have HK3 := Lib.hid (show Kept (But b) W1 w3 from kept_trans (kept_ext extA) hk3); clear hr3 hk3)) | (go_at_call 26; go_must ((with_reducible refine (HTI.out _ (minv_ext _ _ _ _ (HM.out w3 _ HK3.out HR3.out) extA)).mono ?_); rintro e w4 ⟨rfl, hv4⟩; skip)))
    all_goals (go_wp2_with fail; go_meet)
    all_goals exact Lib.hid hv4
  case rest =>
    have HV := hcut
    clear hcut HM HTI HN1
    generalize timesP stpP n (numP 1 r).2 = tm at *
    obtain ⟨v1, v2, v3, ⟨v4, v5⟩, ⟨u, v6, v7⟩, v8, v9⟩ := HV.out
    have x0 := (v8.cell (show w.heap.size + 1 < w.heap.size + 1 + 1 ∧ w.heap.size + 1 ≠ b by omega) (by omega) 0).trans r0
    have x1 := (v8.cell (show w.heap.size + 1 < w.heap.size + 1 + 1 ∧ w.heap.size + 1 ≠ b by omega) (by omega) 1).trans r1
    have y0 := (v8.frz (show w.heap.size + 1 < w.heap.size + 1 + 1 ∧ w.heap.size + 1 ≠ b by omega) (by omega) 0).trans g0
    have y1 := (v8.frz (show w.heap.size + 1 < w.heap.size + 1 + 1 ∧ w.heap.size + 1 ≠ b by omega) (by omega) 1).trans g1
    have hwc : w.heap.size + 1 + 1 < wc.heap.size := World.block_lt_of_cell? _ _ v3
    have hbc : b < wc.heap.size := rdAt_lt v1
    have HN2 := Lib.hid (num2_any v1)
    have HO := Lib.hid v7
    obtain ⟨a3, n3, c3, rfl⟩ := osl_slice v7
    have HI := Lib.hid (num2_i64 tm.2)
    have hpb : ¬ w.heap.size = b := by omega
    have hrb : ¬ w.heap.size + 1 = b := by omega
    have hqb : ¬ w.heap.size + 1 + 1 = b := by omega
    clear p1 r0 r1 q0 q1 f0 f1 g0 g1 HR1 v7 v9 hs1
    generalize numP 2 tm.2 = cl at *
    go_wp2_with (first | (go_at_call 25; go_must ((with_reducible refine (HN2.out).mono ?_); rintro e w5 ⟨rfl, hr5, hk5⟩; have v25 := (hk5.cell (show w.heap.size ≠ b by assumption) (by omega) 0).trans v2; have v65 := (hk5.cell (show w.heap.size + 1 + 1 ≠ b by assumption) (by omega) 0).trans v6; have v35 := (hk5.cell (show w.heap.size + 1 + 1 ≠ b by assumption) (by omega) 1).trans v3; have x05 := (hk5.cell (show w.heap.size + 1 ≠ b by assumption) (by omega) 0).trans x0; have x15 := (hk5.cell (show w.heap.size + 1 ≠ b by assumption) (by omega) 1).trans x1; have y05 := (hk5.frz (show w.heap.size + 1 ≠ b by assumption) (by omega) 0).trans y0; have y15 := (hk5.frz (show w.heap.size + 1 ≠ b by assumption) (by omega) 1).trans y1; have v45 := (hk5.frz (show w.heap.size + 1 + 1 ≠ b by assumption) (by omega) 0).trans v4; have v55 := (hk5.frz (show w.heap.size + 1 + 1 ≠ b by assumption) (by omega) 1).trans v5; have hz5 := hk5.size)))
    have hset : ∀ k, k ≠ w.heap.size + 1 → k ≠ w.heap.size + 1 + 1 → (((w5.setCell ⟨w.heap.size + 1 + 1, 1, none⟩ (.int .i64 cl.1)).setCell ⟨w.heap.size + 1, 0, none⟩ (.slice a3 n3 c3)).setCell ⟨w.heap.size + 1, 1, none⟩ (.int .i64 cl.1)).heap[k]? = w5.heap[k]? := fun k h1 h2 =>
      (Below.heap_setCell _ _ _ k (fun e => h1 e)).trans ((Below.heap_setCell _ _ _ k (fun e => h1 e)).trans (Below.heap_setCell _ _ _ k (fun e => h2 e)))
    have z0 : (((w5.setCell ⟨w.heap.size + 1 + 1, 1, none⟩ (.int .i64 cl.1)).setCell ⟨w.heap.size + 1, 0, none⟩ (.slice a3 n3 c3)).setCell ⟨w.heap.size + 1, 1, none⟩ (.int .i64 cl.1)).cell? ⟨w.heap.size + 1, 0, none⟩ = some (.slice a3 n3 c3) := by go_simp
    have z1 : (((w5.setCell ⟨w.heap.size + 1 + 1, 1, none⟩ (.int .i64 cl.1)).setCell ⟨w.heap.size + 1, 0, none⟩ (.slice a3 n3 c3)).setCell ⟨w.heap.size + 1, 1, none⟩ (.int .i64 cl.1)).cell? ⟨w.heap.size + 1, 1, none⟩ = some (.int .i64 cl.1) := by go_simp
    have hsz : (((w5.setCell ⟨w.heap.size + 1 + 1, 1, none⟩ (.int .i64 cl.1)).setCell ⟨w.heap.size + 1, 0, none⟩ (.slice a3 n3 c3)).setCell ⟨w.heap.size + 1, 1, none⟩ (.int .i64 cl.1)).heap.size = w5.heap.size := by simp
    generalize hW9 : (((w5.setCell ⟨w.heap.size + 1 + 1, 1, none⟩ (.int .i64 cl.1)).setCell ⟨w.heap.size + 1, 0, none⟩ (.slice a3 n3 c3)).setCell ⟨w.heap.size + 1, 1, none⟩ (.int .i64 cl.1)) = W9 at *
    have hos : W9.os = w5.os ∧ W9.tape = w5.tape ∧ W9.output = w5.output := by rw [← hW9]; simp [World.setCell]
    clear hW9
    have ho5 := osl_keptS HO.out hk5 (show b < w.heap.size + 1 + 1 + 1 by omega)
    refine bodyPost_ret (v := .agg #[.slice a3 n3 c3, .int .i64 cl.1]) (by simp [results, Try.results51, go_sem, z0, z1]) rfl ?_
    rw [HP.out]
    refine ⟨_, rfl, ⟨_, rfl, ?_, HI.out⟩, ?_, ?_⟩
    · have ho9 := osl_lkeep lf_stp ho5 (w' := W9) (fun k hk => by have := (osl_lt ho5 k hk).1; exact hset k (by omega) (by omega))
      refine RSl.more gStp (fun k hk _ => ?_) (osl_rsl gStp (osl_any leaf_stp (G := fun k => w.heap.size + 1 + 1 + 1 ≤ k) ho9) (fun k hk _ => hk) (fun k hk => hk))
      show w.heap.size ≤ k
      have hk' : w.heap.size + 1 + 1 + 1 ≤ k := hk
      omega
    · have hb5 := rdAt_lt hr5
      exact rdAt_kept hr5 (Z := fun k => k = b) ⟨hos.1, hos.2.1, hos.2.2, by rw [hsz]; exact Nat.le_refl _, fun k hk _ => hset k (by omega) (by omega)⟩ rfl
    · refine kept_lt (kept_trans ((kept_ext HX1.out).less (fun _ h => h)) (kept_trans (v8.less (fun k hk => ⟨by have := hk.1; omega, hk.2⟩)) (kept_trans (hk5.less (fun k hk => hk.2)) ⟨hos.1, hos.2.1, hos.2.2, by rw [hsz]; exact Nat.le_refl _, fun k hk _ => hset k (by have := hk.1; omega) (by have := hk.1; omega)⟩)))
end Go.Proofs.Ytiladkinndgeaaa
/- A deed that is read. -/
namespace Go.Proofs.Ytiladkinndgeaaa
open Go Go.RowKit Go.BigFrame Cp

/-- a deed in new memory, and what is left of the reader -/
def IsDeR (b : Nat) (x : De × PS) (w : World) (e : Ending) (w' : World) : Prop := ∃ cs, e = .returned (.agg (cs : List Value).toArray) ∧ RDe (fun k => w.heap.size ≤ k) w' cs x.1 ∧ RdAt b x.2 w' ∧ Kept (But b) w w'
theorem deedP_put {r mm nn x} {n : Nat} (hx : x = numP 1 r) (h1 : x.1 = 1) (hm : mm = markP x.2) (hn : nn = numP 1 mm.2) (hn' : nn.1 = (n : Int)) : deedP r = (⟨1, (mm.1, (takeP n nn.2).1), ([], 0), 0⟩, (takeP n nn.2).2) := by
  subst hx hm hn
  unfold deedP
  simp only
  rw [if_pos h1, h1, hn']
theorem deedP_take {r mm nn x} (hx : x = numP 1 r) (h2 : x.1 = 2) (hm : mm = markP x.2) (hn : nn = numP 1 mm.2) : deedP r = (⟨2, (([], 0), []), mm.1, nn.1⟩, nn.2) := by
  subst hx hm hn
  unfold deedP
  simp only
  rw [if_neg (by omega), if_pos h2, h2]
theorem deedP_else {r x} (hx : x = numP 1 r) (h1 : ¬ x.1 = 1) (h2 : ¬ x.1 = 2) : deedP r = (⟨x.1, (([], 0), []), ([], 0), 0⟩, (x.2.1, true)) := by
  subst hx
  unfold deedP
  simp only
  rw [if_neg h1, if_neg h2]
theorem rdAt_keptB {b : Nat} {r : PS} {w w' : World} (h : RdAt b r w) (hk : Kept (fun k => k = b) w w') : RdAt b r w' := rdAt_kept (Z := fun k => k = b) h hk rfl
theorem body_name {P : Program} {fn : Func} {R : Ending → World → Prop} {x : Exit} {a : Act} {w : World} (h : ∀ W, W = w → bodyPost P fn R x a W) : bodyPost P fn R x a w := h w rfl
theorem rtx_nil : RTx (.string ⟨#[]⟩) [] := ⟨rfl, Nat.zero_le _⟩
theorem rtx_of' {s : ByteArray} {t : Tx} (h : s.data.toList = t) (hl : t.length ≤ 140737488351232) : RTx (.string s) t := ⟨by rw [by_eq h], hl⟩
theorem take_small {n : Nat} {r : PS} (h : n ≤ 255) : (takeP n r).1.length ≤ 140737488351232 := by
  unfold takeP
  by_cases hl : (r.1.length : Int) < n
  · rw [if_pos hl]; exact Nat.zero_le _
  · rw [if_neg hl, Int.toNat_natCast, List.length_take]; omega
set_option maxRecDepth 100000 in
set_option maxHeartbeats 4000000 in
theorem deedR1_any {w : World} {b : Nat} {r : PS} {x : Int × PS} (h : RdAt b r w) (hx : x = numP 1 r) (h1 : x.1 = 1) :
    Calls Try.prog 29 #[.pointer (some ⟨b, 0, none⟩)] w (IsDeR b (deedP r) w) := by
  have hb := rdAt_lt h
  have hrb : w.heap.size ≠ b := by omega
  have HR := Lib.hid h
  have HN1 := Lib.hid (fun (W : World) (h : RdAt b r W) => num1_any h)
  have HIK := Lib.hid (num1_i64 r)
  rw [← hx] at HN1 HIK
  obtain ⟨k0, kr⟩ := x
  simp only at HIK h1
  have HX := Lib.hid hx
  clear h hx
  have t1 : (k0 == 1) = true := by rw [h1]; rfl
  obtain ⟨mm, hmm⟩ : ∃ x, x = markP kr := ⟨_, rfl⟩
  obtain ⟨nn, hnn⟩ : ∃ x, x = numP 1 mm.2 := ⟨_, rfl⟩
  obtain ⟨n, hn, hn5⟩ := num1_nat mm.2
  rw [← hnn] at hn
  have HP := Lib.hid (deedP_put HX.out h1 hmm hnn hn)
  have HMK := Lib.hid (fun (W : World) (h : RdAt b kr W) => (hmm ▸ markR_any h : Calls _ _ _ _ (IsMkR b mm W)))
  have HN2 := Lib.hid (fun (W : World) (h : RdAt b mm.2 W) => (num1_any h).mono (R' := fun e w' => e = .returned (.int .i64 (n : Int)) ∧ RdAt b nn.2 w' ∧ Kept (But b) W w') (fun e w' ⟨h1, h2, h3⟩ => ⟨by rw [h1, ← hnn, hn], hnn ▸ h2, h3⟩))
  have HTK := Lib.hid (fun (W : World) (h : RdAt b nn.2 W) => takeR_any (n := n) h (by omega))
  have HL := Lib.hid (take_small (n := n) (r := nn.2) hn5)
  clear hn hn5 HX hmm hnn
  subst h1
  go_enter Try.func29, Try.ntmps29
  go_wp2_with (first | (go_at_call 25; ((with_reducible refine (HN1.out _ (rdAt_ext HR.out extA)).mono ?_); rintro e w1 ⟨rfl, hr1, hk1⟩; have hl1 : w.heap.size < w1.heap.size := Nat.lt_of_lt_of_le (by first | omega | (simp <;> omega)) hk1.size; have hdb : w1.heap.size ≠ b := (by omega); have hrd : ¬ w.heap.size = w1.heap.size := (by omega); have nr0 := (hk1.cell hrb (by first | omega | (simp <;> omega)) 0).trans (show _ = some (.int .i64 0) by first | (with_reducible assumption) | go_simp); have nfr0 := (hk1.frz hrb (by first | omega | (simp <;> omega)) 0).trans (show _ = false by first | (with_reducible assumption) | go_simp); have nr1 := (hk1.cell hrb (by first | omega | (simp <;> omega)) 1).trans (show _ = some (.slice none 0 0) by first | (with_reducible assumption) | go_simp); have nfr1 := (hk1.frz hrb (by first | omega | (simp <;> omega)) 1).trans (show _ = false by first | (with_reducible assumption) | go_simp); have nr2 := (hk1.cell hrb (by first | omega | (simp <;> omega)) 2).trans (show _ = some (.int .i64 0) by first | (with_reducible assumption) | go_simp); have nfr2 := (hk1.frz hrb (by first | omega | (simp <;> omega)) 2).trans (show _ = false by first | (with_reducible assumption) | go_simp); have nr3 := (hk1.cell hrb (by first | omega | (simp <;> omega)) 3).trans (show _ = some (.string ⟨#[]⟩) by first | (with_reducible assumption) | go_simp); have nfr3 := (hk1.frz hrb (by first | omega | (simp <;> omega)) 3).trans (show _ = false by first | (with_reducible assumption) | go_simp); have nr4 := (hk1.cell hrb (by first | omega | (simp <;> omega)) 4).trans (show _ = some (.slice none 0 0) by first | (with_reducible assumption) | go_simp); have nfr4 := (hk1.frz hrb (by first | omega | (simp <;> omega)) 4).trans (show _ = false by first | (with_reducible assumption) | go_simp); have nr5 := (hk1.cell hrb (by first | omega | (simp <;> omega)) 5).trans (show _ = some (.int .i64 0) by first | (with_reducible assumption) | go_simp); have nfr5 := (hk1.frz hrb (by first | omega | (simp <;> omega)) 5).trans (show _ = false by first | (with_reducible assumption) | go_simp); have nr6 := (hk1.cell hrb (by first | omega | (simp <;> omega)) 6).trans (show _ = some (.int .i64 0) by first | (with_reducible assumption) | go_simp); have nfr6 := (hk1.frz hrb (by first | omega | (simp <;> omega)) 6).trans (show _ = false by first | (with_reducible assumption) | go_simp); have HR1 := Lib.hid hr1; have HK1 := Lib.hid (show Kept (But b) w w1 from kept_trans (kept_ext extA) hk1); clear hr1 hk1 HN1)) | (go_at_call 51; go_must ((with_reducible refine (HMK.out _ (rdAt_ext HR1.out extA)).mono ?_); rintro e w2 ⟨v2, rfl, hm2, hr2, hk2⟩; obtain ⟨v2', hv2, hm2, hi2⟩ := hm2; injection hv2 with hv2; subst hv2; obtain ⟨a2, n2, c2, rfl⟩ := hm2.slice; have hz2 := hk2.size; (try simp at hz2); have md0 := (hk2.cell (show w1.heap.size ≠ b by assumption) (by first | omega | (simp <;> omega)) 0).trans (show _ = some (.int .i64 1) by first | (with_reducible assumption) | go_simp); have mfd0 := (hk2.frz (show w1.heap.size ≠ b by assumption) (by first | omega | (simp <;> omega)) 0).trans (show _ = false by first | (with_reducible assumption) | go_simp); have md1 := (hk2.cell (show w1.heap.size ≠ b by assumption) (by first | omega | (simp <;> omega)) 1).trans (show _ = some (.slice none 0 0) by first | (with_reducible assumption) | go_simp); have mfd1 := (hk2.frz (show w1.heap.size ≠ b by assumption) (by first | omega | (simp <;> omega)) 1).trans (show _ = false by first | (with_reducible assumption) | go_simp); have md2 := (hk2.cell (show w1.heap.size ≠ b by assumption) (by first | omega | (simp <;> omega)) 2).trans (show _ = some (.int .i64 0) by first | (with_reducible assumption) | go_simp); have mfd2 := (hk2.frz (show w1.heap.size ≠ b by assumption) (by first | omega | (simp <;> omega)) 2).trans (show _ = false by first | (with_reducible assumption) | go_simp); have md3 := (hk2.cell (show w1.heap.size ≠ b by assumption) (by first | omega | (simp <;> omega)) 3).trans (show _ = some (.string ⟨#[]⟩) by first | (with_reducible assumption) | go_simp); have mfd3 := (hk2.frz (show w1.heap.size ≠ b by assumption) (by first | omega | (simp <;> omega)) 3).trans (show _ = false by first | (with_reducible assumption) | go_simp); have md4 := (hk2.cell (show w1.heap.size ≠ b by assumption) (by first | omega | (simp <;> omega)) 4).trans (show _ = some (.slice none 0 0) by first | (with_reducible assumption) | go_simp); have mfd4 := (hk2.frz (show w1.heap.size ≠ b by assumption) (by first | omega | (simp <;> omega)) 4).trans (show _ = false by first | (with_reducible assumption) | go_simp); have md5 := (hk2.cell (show w1.heap.size ≠ b by assumption) (by first | omega | (simp <;> omega)) 5).trans (show _ = some (.int .i64 0) by first | (with_reducible assumption) | go_simp); have mfd5 := (hk2.frz (show w1.heap.size ≠ b by assumption) (by first | omega | (simp <;> omega)) 5).trans (show _ = false by first | (with_reducible assumption) | go_simp); have md6 := (hk2.cell (show w1.heap.size ≠ b by assumption) (by first | omega | (simp <;> omega)) 6).trans (show _ = some (.int .i64 0) by first | (with_reducible assumption) | go_simp); have mfd6 := (hk2.frz (show w1.heap.size ≠ b by assumption) (by first | omega | (simp <;> omega)) 6).trans (show _ = false by first | (with_reducible assumption) | go_simp); have mr0 := (hk2.cell (show w.heap.size ≠ b by assumption) (by first | omega | (simp <;> omega)) 0).trans (show _ = some (.int .i64 0) by first | (with_reducible assumption) | go_simp); have mfr0 := (hk2.frz (show w.heap.size ≠ b by assumption) (by first | omega | (simp <;> omega)) 0).trans (show _ = false by first | (with_reducible assumption) | go_simp); have mr1 := (hk2.cell (show w.heap.size ≠ b by assumption) (by first | omega | (simp <;> omega)) 1).trans (show _ = some (.slice none 0 0) by first | (with_reducible assumption) | go_simp); have mfr1 := (hk2.frz (show w.heap.size ≠ b by assumption) (by first | omega | (simp <;> omega)) 1).trans (show _ = false by first | (with_reducible assumption) | go_simp); have mr2 := (hk2.cell (show w.heap.size ≠ b by assumption) (by first | omega | (simp <;> omega)) 2).trans (show _ = some (.int .i64 0) by first | (with_reducible assumption) | go_simp); have mfr2 := (hk2.frz (show w.heap.size ≠ b by assumption) (by first | omega | (simp <;> omega)) 2).trans (show _ = false by first | (with_reducible assumption) | go_simp); have mr3 := (hk2.cell (show w.heap.size ≠ b by assumption) (by first | omega | (simp <;> omega)) 3).trans (show _ = some (.string ⟨#[]⟩) by first | (with_reducible assumption) | go_simp); have mfr3 := (hk2.frz (show w.heap.size ≠ b by assumption) (by first | omega | (simp <;> omega)) 3).trans (show _ = false by first | (with_reducible assumption) | go_simp); have mr4 := (hk2.cell (show w.heap.size ≠ b by assumption) (by first | omega | (simp <;> omega)) 4).trans (show _ = some (.slice none 0 0) by first | (with_reducible assumption) | go_simp); have mfr4 := (hk2.frz (show w.heap.size ≠ b by assumption) (by first | omega | (simp <;> omega)) 4).trans (show _ = false by first | (with_reducible assumption) | go_simp); have mr5 := (hk2.cell (show w.heap.size ≠ b by assumption) (by first | omega | (simp <;> omega)) 5).trans (show _ = some (.int .i64 0) by first | (with_reducible assumption) | go_simp); have mfr5 := (hk2.frz (show w.heap.size ≠ b by assumption) (by first | omega | (simp <;> omega)) 5).trans (show _ = false by first | (with_reducible assumption) | go_simp); have mr6 := (hk2.cell (show w.heap.size ≠ b by assumption) (by first | omega | (simp <;> omega)) 6).trans (show _ = some (.int .i64 0) by first | (with_reducible assumption) | go_simp); have mfr6 := (hk2.frz (show w.heap.size ≠ b by assumption) (by first | omega | (simp <;> omega)) 6).trans (show _ = false by first | (with_reducible assumption) | go_simp); have HR2 := Lib.hid hr2; have HK2 := Lib.hid (show Kept (But b) w1 w2 from kept_trans (kept_ext extA) hk2); have HM2 := Lib.hid (RSl.more gStp (G := fun k => w1.heap.size < k) (fun k hk _ => by (try simp at hk); omega) hm2); have HI2 := Lib.hid hi2; clear hr2 hk2 hm2 hi2)) | (go_at_call 25; go_must ((with_reducible refine (HN2.out _ (rdAt_kept HR2.out (Z := fun k => k = b) (kept_set (p := ⟨w1.heap.size, 2, none⟩) (kept_set (p := ⟨w1.heap.size, 1, none⟩) kept_refl hdb _) hdb _) rfl)).mono ?_); rintro e w3 ⟨rfl, hr3, hk3⟩; have hz3 := hk3.size; (try simp at hz3); have pd0 := (hk3.cell (show w1.heap.size ≠ b by assumption) (by first | omega | (simp <;> omega)) 0).trans (show _ = some (.int .i64 1) by first | (with_reducible assumption) | go_simp); have pfd0 := (hk3.frz (show w1.heap.size ≠ b by assumption) (by first | omega | (simp <;> omega)) 0).trans (show _ = false by first | (with_reducible assumption) | go_simp); have pd1 := (hk3.cell (show w1.heap.size ≠ b by assumption) (by first | omega | (simp <;> omega)) 1).trans (show _ = some (.slice a2 n2 c2) by first | (with_reducible assumption) | go_simp); have pfd1 := (hk3.frz (show w1.heap.size ≠ b by assumption) (by first | omega | (simp <;> omega)) 1).trans (show _ = false by first | (with_reducible assumption) | go_simp); have pd2 := (hk3.cell (show w1.heap.size ≠ b by assumption) (by first | omega | (simp <;> omega)) 2).trans (show _ = some (.int .i64 mm.1.2) by first | (with_reducible assumption) | go_simp); have pfd2 := (hk3.frz (show w1.heap.size ≠ b by assumption) (by first | omega | (simp <;> omega)) 2).trans (show _ = false by first | (with_reducible assumption) | go_simp); have pd3 := (hk3.cell (show w1.heap.size ≠ b by assumption) (by first | omega | (simp <;> omega)) 3).trans (show _ = some (.string ⟨#[]⟩) by first | (with_reducible assumption) | go_simp); have pfd3 := (hk3.frz (show w1.heap.size ≠ b by assumption) (by first | omega | (simp <;> omega)) 3).trans (show _ = false by first | (with_reducible assumption) | go_simp); have pd4 := (hk3.cell (show w1.heap.size ≠ b by assumption) (by first | omega | (simp <;> omega)) 4).trans (show _ = some (.slice none 0 0) by first | (with_reducible assumption) | go_simp); have pfd4 := (hk3.frz (show w1.heap.size ≠ b by assumption) (by first | omega | (simp <;> omega)) 4).trans (show _ = false by first | (with_reducible assumption) | go_simp); have pd5 := (hk3.cell (show w1.heap.size ≠ b by assumption) (by first | omega | (simp <;> omega)) 5).trans (show _ = some (.int .i64 0) by first | (with_reducible assumption) | go_simp); have pfd5 := (hk3.frz (show w1.heap.size ≠ b by assumption) (by first | omega | (simp <;> omega)) 5).trans (show _ = false by first | (with_reducible assumption) | go_simp); have pd6 := (hk3.cell (show w1.heap.size ≠ b by assumption) (by first | omega | (simp <;> omega)) 6).trans (show _ = some (.int .i64 0) by first | (with_reducible assumption) | go_simp); have pfd6 := (hk3.frz (show w1.heap.size ≠ b by assumption) (by first | omega | (simp <;> omega)) 6).trans (show _ = false by first | (with_reducible assumption) | go_simp); have pr0 := (hk3.cell (show w.heap.size ≠ b by assumption) (by first | omega | (simp <;> omega)) 0).trans (show _ = some (.int .i64 0) by first | (with_reducible assumption) | go_simp); have pfr0 := (hk3.frz (show w.heap.size ≠ b by assumption) (by first | omega | (simp <;> omega)) 0).trans (show _ = false by first | (with_reducible assumption) | go_simp); have pr1 := (hk3.cell (show w.heap.size ≠ b by assumption) (by first | omega | (simp <;> omega)) 1).trans (show _ = some (.slice none 0 0) by first | (with_reducible assumption) | go_simp); have pfr1 := (hk3.frz (show w.heap.size ≠ b by assumption) (by first | omega | (simp <;> omega)) 1).trans (show _ = false by first | (with_reducible assumption) | go_simp); have pr2 := (hk3.cell (show w.heap.size ≠ b by assumption) (by first | omega | (simp <;> omega)) 2).trans (show _ = some (.int .i64 0) by first | (with_reducible assumption) | go_simp); have pfr2 := (hk3.frz (show w.heap.size ≠ b by assumption) (by first | omega | (simp <;> omega)) 2).trans (show _ = false by first | (with_reducible assumption) | go_simp); have pr3 := (hk3.cell (show w.heap.size ≠ b by assumption) (by first | omega | (simp <;> omega)) 3).trans (show _ = some (.string ⟨#[]⟩) by first | (with_reducible assumption) | go_simp); have pfr3 := (hk3.frz (show w.heap.size ≠ b by assumption) (by first | omega | (simp <;> omega)) 3).trans (show _ = false by first | (with_reducible assumption) | go_simp); have pr4 := (hk3.cell (show w.heap.size ≠ b by assumption) (by first | omega | (simp <;> omega)) 4).trans (show _ = some (.slice none 0 0) by first | (with_reducible assumption) | go_simp); have pfr4 := (hk3.frz (show w.heap.size ≠ b by assumption) (by first | omega | (simp <;> omega)) 4).trans (show _ = false by first | (with_reducible assumption) | go_simp); have pr5 := (hk3.cell (show w.heap.size ≠ b by assumption) (by first | omega | (simp <;> omega)) 5).trans (show _ = some (.int .i64 0) by first | (with_reducible assumption) | go_simp); have pfr5 := (hk3.frz (show w.heap.size ≠ b by assumption) (by first | omega | (simp <;> omega)) 5).trans (show _ = false by first | (with_reducible assumption) | go_simp); have pr6 := (hk3.cell (show w.heap.size ≠ b by assumption) (by first | omega | (simp <;> omega)) 6).trans (show _ = some (.int .i64 0) by first | (with_reducible assumption) | go_simp); have pfr6 := (hk3.frz (show w.heap.size ≠ b by assumption) (by first | omega | (simp <;> omega)) 6).trans (show _ = false by first | (with_reducible assumption) | go_simp); have HR3 := Lib.hid hr3; have HK3 := Lib.hid (show Kept (But b) _ w3 from hk3); clear hr3 hk3)) | (go_at_call 50; go_must ((with_reducible refine (HTK.out _ HR3.out).mono ?_); rintro e w4 ⟨s4, rfl, hs4, hr4, hk4⟩; have hz4 := hk4.size; (try simp at hz4); have qd0 := (hk4.cell (show w1.heap.size ≠ b by assumption) (by first | omega | (simp <;> omega)) 0).trans (show _ = some (.int .i64 1) by first | (with_reducible assumption) | go_simp); have qfd0 := (hk4.frz (show w1.heap.size ≠ b by assumption) (by first | omega | (simp <;> omega)) 0).trans (show _ = false by first | (with_reducible assumption) | go_simp); have qd1 := (hk4.cell (show w1.heap.size ≠ b by assumption) (by first | omega | (simp <;> omega)) 1).trans (show _ = some (.slice a2 n2 c2) by first | (with_reducible assumption) | go_simp); have qfd1 := (hk4.frz (show w1.heap.size ≠ b by assumption) (by first | omega | (simp <;> omega)) 1).trans (show _ = false by first | (with_reducible assumption) | go_simp); have qd2 := (hk4.cell (show w1.heap.size ≠ b by assumption) (by first | omega | (simp <;> omega)) 2).trans (show _ = some (.int .i64 mm.1.2) by first | (with_reducible assumption) | go_simp); have qfd2 := (hk4.frz (show w1.heap.size ≠ b by assumption) (by first | omega | (simp <;> omega)) 2).trans (show _ = false by first | (with_reducible assumption) | go_simp); have qd3 := (hk4.cell (show w1.heap.size ≠ b by assumption) (by first | omega | (simp <;> omega)) 3).trans (show _ = some (.string ⟨#[]⟩) by first | (with_reducible assumption) | go_simp); have qfd3 := (hk4.frz (show w1.heap.size ≠ b by assumption) (by first | omega | (simp <;> omega)) 3).trans (show _ = false by first | (with_reducible assumption) | go_simp); have qd4 := (hk4.cell (show w1.heap.size ≠ b by assumption) (by first | omega | (simp <;> omega)) 4).trans (show _ = some (.slice none 0 0) by first | (with_reducible assumption) | go_simp); have qfd4 := (hk4.frz (show w1.heap.size ≠ b by assumption) (by first | omega | (simp <;> omega)) 4).trans (show _ = false by first | (with_reducible assumption) | go_simp); have qd5 := (hk4.cell (show w1.heap.size ≠ b by assumption) (by first | omega | (simp <;> omega)) 5).trans (show _ = some (.int .i64 0) by first | (with_reducible assumption) | go_simp); have qfd5 := (hk4.frz (show w1.heap.size ≠ b by assumption) (by first | omega | (simp <;> omega)) 5).trans (show _ = false by first | (with_reducible assumption) | go_simp); have qd6 := (hk4.cell (show w1.heap.size ≠ b by assumption) (by first | omega | (simp <;> omega)) 6).trans (show _ = some (.int .i64 0) by first | (with_reducible assumption) | go_simp); have qfd6 := (hk4.frz (show w1.heap.size ≠ b by assumption) (by first | omega | (simp <;> omega)) 6).trans (show _ = false by first | (with_reducible assumption) | go_simp); have qr0 := (hk4.cell (show w.heap.size ≠ b by assumption) (by first | omega | (simp <;> omega)) 0).trans (show _ = some (.int .i64 0) by first | (with_reducible assumption) | go_simp); have qfr0 := (hk4.frz (show w.heap.size ≠ b by assumption) (by first | omega | (simp <;> omega)) 0).trans (show _ = false by first | (with_reducible assumption) | go_simp); have qr1 := (hk4.cell (show w.heap.size ≠ b by assumption) (by first | omega | (simp <;> omega)) 1).trans (show _ = some (.slice none 0 0) by first | (with_reducible assumption) | go_simp); have qfr1 := (hk4.frz (show w.heap.size ≠ b by assumption) (by first | omega | (simp <;> omega)) 1).trans (show _ = false by first | (with_reducible assumption) | go_simp); have qr2 := (hk4.cell (show w.heap.size ≠ b by assumption) (by first | omega | (simp <;> omega)) 2).trans (show _ = some (.int .i64 0) by first | (with_reducible assumption) | go_simp); have qfr2 := (hk4.frz (show w.heap.size ≠ b by assumption) (by first | omega | (simp <;> omega)) 2).trans (show _ = false by first | (with_reducible assumption) | go_simp); have qr3 := (hk4.cell (show w.heap.size ≠ b by assumption) (by first | omega | (simp <;> omega)) 3).trans (show _ = some (.string ⟨#[]⟩) by first | (with_reducible assumption) | go_simp); have qfr3 := (hk4.frz (show w.heap.size ≠ b by assumption) (by first | omega | (simp <;> omega)) 3).trans (show _ = false by first | (with_reducible assumption) | go_simp); have qr4 := (hk4.cell (show w.heap.size ≠ b by assumption) (by first | omega | (simp <;> omega)) 4).trans (show _ = some (.slice none 0 0) by first | (with_reducible assumption) | go_simp); have qfr4 := (hk4.frz (show w.heap.size ≠ b by assumption) (by first | omega | (simp <;> omega)) 4).trans (show _ = false by first | (with_reducible assumption) | go_simp); have qr5 := (hk4.cell (show w.heap.size ≠ b by assumption) (by first | omega | (simp <;> omega)) 5).trans (show _ = some (.int .i64 0) by first | (with_reducible assumption) | go_simp); have qfr5 := (hk4.frz (show w.heap.size ≠ b by assumption) (by first | omega | (simp <;> omega)) 5).trans (show _ = false by first | (with_reducible assumption) | go_simp); have qr6 := (hk4.cell (show w.heap.size ≠ b by assumption) (by first | omega | (simp <;> omega)) 6).trans (show _ = some (.int .i64 0) by first | (with_reducible assumption) | go_simp); have qfr6 := (hk4.frz (show w.heap.size ≠ b by assumption) (by first | omega | (simp <;> omega)) 6).trans (show _ = false by first | (with_reducible assumption) | go_simp); have HR4 := Lib.hid hr4; have HK4 := Lib.hid hk4; have HS4 := Lib.hid hs4; clear hr4 hk4 hs4)))
  refine body_name (fun W9 hW9 => ?_)
  have z0 : W9.cell? ⟨w.heap.size, 0, none⟩ = some (.int .i64 1) := by rw [hW9]; go_simp
  have z1 : W9.cell? ⟨w.heap.size, 1, none⟩ = some (.slice a2 n2 c2) := by rw [hW9]; go_simp
  have z2 : W9.cell? ⟨w.heap.size, 2, none⟩ = some (.int .i64 mm.1.2) := by rw [hW9]; go_simp
  have z3 : W9.cell? ⟨w.heap.size, 3, none⟩ = some (.string s4) := by rw [hW9]; go_simp
  have z4 : W9.cell? ⟨w.heap.size, 4, none⟩ = some (.slice none 0 0) := by rw [hW9]; go_simp
  have z5 : W9.cell? ⟨w.heap.size, 5, none⟩ = some (.int .i64 0) := by rw [hW9]; go_simp
  have z6 : W9.cell? ⟨w.heap.size, 6, none⟩ = some (.int .i64 0) := by rw [hW9]; go_simp
  have hk9 : ∀ Z : Nat → Prop, ¬ Z w1.heap.size → ¬ Z w.heap.size → Kept Z w4 W9 := by intro Z zd zr; rw [hW9]; repeat (first | (with_reducible exact kept_refl) | (with_reducible refine kept_set ?_ zd _) | (with_reducible refine kept_set ?_ zr _))
  clear hW9
  have hch : ∀ Z : Nat → Prop, ¬ Z b → ¬ Z w1.heap.size → ¬ Z w.heap.size → Kept Z w2 W9 := fun Z zb zd zr => kept_trans (kept_set (p := ⟨w1.heap.size, 2, none⟩) (kept_set (p := ⟨w1.heap.size, 1, none⟩) kept_refl zd _) zd _) (kept_trans (HK3.out.less (fun k hk e => zb (e ▸ hk))) (kept_trans (HK4.out.less (fun k hk e => zb (e ▸ hk))) (hk9 Z zd zr)))
  refine bodyPost_ret (v := .agg #[.int .i64 1, .slice a2 n2 c2, .int .i64 mm.1.2, .string s4, .slice none 0 0, .int .i64 0, .int .i64 0]) (by simp [results, Try.results29, go_sem, z0, z1, z2, z3, z4, z5, z6]) rfl ?_
  rw [HP.out]
  have h00 : I64 0 := ⟨by decide, by decide⟩
  refine ⟨[.int .i64 1, .slice a2 n2 c2, .int .i64 mm.1.2, .string s4, .slice none 0 0, .int .i64 0, .int .i64 0], rfl, ⟨_, _, _, rfl, HIK.out, RSl.more gStp (fun k hk _ => by have hk' : w1.heap.size < k := hk; show w.heap.size ≤ k; omega) (HM2.out.keep gStp (hch (fun k => w1.heap.size < k) (by omega) (by omega) (by omega)).keeps), HI2.out, rtx_of' HS4.out HL.out, RSl.nil_ (Nat.zero_le _), h00, h00⟩, ?_, ?_⟩
  · exact rdAt_keptB HR4.out (hk9 (fun k => k = b) hdb hrb)
  · exact kept_lt (kept_trans (HK1.out.less (fun k hk => hk.2)) (kept_trans (HK2.out.less (fun k hk => hk.2)) (hch (fun k => k < w.heap.size ∧ k ≠ b) (fun h => h.2 rfl) (fun h => by have := h.1; omega) (fun h => by have := h.1; omega))))
end Go.Proofs.Ytiladkinndgeaaa
/- A deed that is read, a take. -/
namespace Go.Proofs.Ytiladkinndgeaaa
open Go Go.RowKit Go.BigFrame Cp

set_option maxRecDepth 100000 in
set_option maxHeartbeats 4000000 in
theorem deedR2_any {w : World} {b : Nat} {r : PS} {x : Int × PS} (h : RdAt b r w) (hx : x = numP 1 r) (h1 : x.1 = 2) :
    Calls Try.prog 29 #[.pointer (some ⟨b, 0, none⟩)] w (IsDeR b (deedP r) w) := by
  have hb := rdAt_lt h
  have hrb : w.heap.size ≠ b := by omega
  have HR := Lib.hid h
  have HN1 := Lib.hid (fun (W : World) (h : RdAt b r W) => num1_any h)
  have HIK := Lib.hid (num1_i64 r)
  rw [← hx] at HN1 HIK
  obtain ⟨k0, kr⟩ := x
  simp only at HIK h1
  have HX := Lib.hid hx
  clear h hx
  have t1 : (k0 == 1) = false := by rw [h1]; rfl
  have t2 : (k0 == 2) = true := by rw [h1]; rfl
  obtain ⟨mm, hmm⟩ : ∃ x, x = markP kr := ⟨_, rfl⟩
  obtain ⟨nn, hnn⟩ : ∃ x, x = numP 1 mm.2 := ⟨_, rfl⟩
  have HIN := Lib.hid (show I64 nn.1 from hnn ▸ num1_i64 mm.2)
  have HP := Lib.hid (deedP_take HX.out h1 hmm hnn)
  have HMK := Lib.hid (fun (W : World) (h : RdAt b kr W) => (hmm ▸ markR_any h : Calls _ _ _ _ (IsMkR b mm W)))
  have HN2 := Lib.hid (fun (W : World) (h : RdAt b mm.2 W) => (hnn ▸ num1_any h : Calls _ _ _ _ (IsNum b nn W)))
  clear HX hmm hnn
  subst h1
  go_enter Try.func29, Try.ntmps29
  go_wp2_with (first | (go_at_call 25; ((with_reducible refine (HN1.out _ (rdAt_ext HR.out extA)).mono ?_); rintro e w1 ⟨rfl, hr1, hk1⟩; have hl1 : w.heap.size < w1.heap.size := Nat.lt_of_lt_of_le (by first | omega | (simp <;> omega)) hk1.size; have hdb : w1.heap.size ≠ b := (by omega); have hrd : ¬ w.heap.size = w1.heap.size := (by omega); have nr0 := (hk1.cell hrb (by first | omega | (simp <;> omega)) 0).trans (show _ = some (.int .i64 0) by first | (with_reducible assumption) | go_simp); have nfr0 := (hk1.frz hrb (by first | omega | (simp <;> omega)) 0).trans (show _ = false by first | (with_reducible assumption) | go_simp); have nr1 := (hk1.cell hrb (by first | omega | (simp <;> omega)) 1).trans (show _ = some (.slice none 0 0) by first | (with_reducible assumption) | go_simp); have nfr1 := (hk1.frz hrb (by first | omega | (simp <;> omega)) 1).trans (show _ = false by first | (with_reducible assumption) | go_simp); have nr2 := (hk1.cell hrb (by first | omega | (simp <;> omega)) 2).trans (show _ = some (.int .i64 0) by first | (with_reducible assumption) | go_simp); have nfr2 := (hk1.frz hrb (by first | omega | (simp <;> omega)) 2).trans (show _ = false by first | (with_reducible assumption) | go_simp); have nr3 := (hk1.cell hrb (by first | omega | (simp <;> omega)) 3).trans (show _ = some (.string ⟨#[]⟩) by first | (with_reducible assumption) | go_simp); have nfr3 := (hk1.frz hrb (by first | omega | (simp <;> omega)) 3).trans (show _ = false by first | (with_reducible assumption) | go_simp); have nr4 := (hk1.cell hrb (by first | omega | (simp <;> omega)) 4).trans (show _ = some (.slice none 0 0) by first | (with_reducible assumption) | go_simp); have nfr4 := (hk1.frz hrb (by first | omega | (simp <;> omega)) 4).trans (show _ = false by first | (with_reducible assumption) | go_simp); have nr5 := (hk1.cell hrb (by first | omega | (simp <;> omega)) 5).trans (show _ = some (.int .i64 0) by first | (with_reducible assumption) | go_simp); have nfr5 := (hk1.frz hrb (by first | omega | (simp <;> omega)) 5).trans (show _ = false by first | (with_reducible assumption) | go_simp); have nr6 := (hk1.cell hrb (by first | omega | (simp <;> omega)) 6).trans (show _ = some (.int .i64 0) by first | (with_reducible assumption) | go_simp); have nfr6 := (hk1.frz hrb (by first | omega | (simp <;> omega)) 6).trans (show _ = false by first | (with_reducible assumption) | go_simp); have HR1 := Lib.hid hr1; have HK1 := Lib.hid (show Kept (But b) w w1 from kept_trans (kept_ext extA) hk1); clear hr1 hk1 HN1)) | (go_at_call 51; go_must ((with_reducible refine (HMK.out _ (rdAt_ext HR1.out extA)).mono ?_); rintro e w2 ⟨v2, rfl, hm2, hr2, hk2⟩; obtain ⟨v2', hv2, hm2, hi2⟩ := hm2; injection hv2 with hv2; subst hv2; obtain ⟨a2, n2, c2, rfl⟩ := hm2.slice; have hz2 := hk2.size; (try simp at hz2); have md0 := (hk2.cell (show w1.heap.size ≠ b by assumption) (by first | omega | (simp <;> omega)) 0).trans (show _ = some (.int .i64 2) by first | (with_reducible assumption) | go_simp); have mfd0 := (hk2.frz (show w1.heap.size ≠ b by assumption) (by first | omega | (simp <;> omega)) 0).trans (show _ = false by first | (with_reducible assumption) | go_simp); have md1 := (hk2.cell (show w1.heap.size ≠ b by assumption) (by first | omega | (simp <;> omega)) 1).trans (show _ = some (.slice none 0 0) by first | (with_reducible assumption) | go_simp); have mfd1 := (hk2.frz (show w1.heap.size ≠ b by assumption) (by first | omega | (simp <;> omega)) 1).trans (show _ = false by first | (with_reducible assumption) | go_simp); have md2 := (hk2.cell (show w1.heap.size ≠ b by assumption) (by first | omega | (simp <;> omega)) 2).trans (show _ = some (.int .i64 0) by first | (with_reducible assumption) | go_simp); have mfd2 := (hk2.frz (show w1.heap.size ≠ b by assumption) (by first | omega | (simp <;> omega)) 2).trans (show _ = false by first | (with_reducible assumption) | go_simp); have md3 := (hk2.cell (show w1.heap.size ≠ b by assumption) (by first | omega | (simp <;> omega)) 3).trans (show _ = some (.string ⟨#[]⟩) by first | (with_reducible assumption) | go_simp); have mfd3 := (hk2.frz (show w1.heap.size ≠ b by assumption) (by first | omega | (simp <;> omega)) 3).trans (show _ = false by first | (with_reducible assumption) | go_simp); have md4 := (hk2.cell (show w1.heap.size ≠ b by assumption) (by first | omega | (simp <;> omega)) 4).trans (show _ = some (.slice none 0 0) by first | (with_reducible assumption) | go_simp); have mfd4 := (hk2.frz (show w1.heap.size ≠ b by assumption) (by first | omega | (simp <;> omega)) 4).trans (show _ = false by first | (with_reducible assumption) | go_simp); have md5 := (hk2.cell (show w1.heap.size ≠ b by assumption) (by first | omega | (simp <;> omega)) 5).trans (show _ = some (.int .i64 0) by first | (with_reducible assumption) | go_simp); have mfd5 := (hk2.frz (show w1.heap.size ≠ b by assumption) (by first | omega | (simp <;> omega)) 5).trans (show _ = false by first | (with_reducible assumption) | go_simp); have md6 := (hk2.cell (show w1.heap.size ≠ b by assumption) (by first | omega | (simp <;> omega)) 6).trans (show _ = some (.int .i64 0) by first | (with_reducible assumption) | go_simp); have mfd6 := (hk2.frz (show w1.heap.size ≠ b by assumption) (by first | omega | (simp <;> omega)) 6).trans (show _ = false by first | (with_reducible assumption) | go_simp); have mr0 := (hk2.cell (show w.heap.size ≠ b by assumption) (by first | omega | (simp <;> omega)) 0).trans (show _ = some (.int .i64 0) by first | (with_reducible assumption) | go_simp); have mfr0 := (hk2.frz (show w.heap.size ≠ b by assumption) (by first | omega | (simp <;> omega)) 0).trans (show _ = false by first | (with_reducible assumption) | go_simp); have mr1 := (hk2.cell (show w.heap.size ≠ b by assumption) (by first | omega | (simp <;> omega)) 1).trans (show _ = some (.slice none 0 0) by first | (with_reducible assumption) | go_simp); have mfr1 := (hk2.frz (show w.heap.size ≠ b by assumption) (by first | omega | (simp <;> omega)) 1).trans (show _ = false by first | (with_reducible assumption) | go_simp); have mr2 := (hk2.cell (show w.heap.size ≠ b by assumption) (by first | omega | (simp <;> omega)) 2).trans (show _ = some (.int .i64 0) by first | (with_reducible assumption) | go_simp); have mfr2 := (hk2.frz (show w.heap.size ≠ b by assumption) (by first | omega | (simp <;> omega)) 2).trans (show _ = false by first | (with_reducible assumption) | go_simp); have mr3 := (hk2.cell (show w.heap.size ≠ b by assumption) (by first | omega | (simp <;> omega)) 3).trans (show _ = some (.string ⟨#[]⟩) by first | (with_reducible assumption) | go_simp); have mfr3 := (hk2.frz (show w.heap.size ≠ b by assumption) (by first | omega | (simp <;> omega)) 3).trans (show _ = false by first | (with_reducible assumption) | go_simp); have mr4 := (hk2.cell (show w.heap.size ≠ b by assumption) (by first | omega | (simp <;> omega)) 4).trans (show _ = some (.slice none 0 0) by first | (with_reducible assumption) | go_simp); have mfr4 := (hk2.frz (show w.heap.size ≠ b by assumption) (by first | omega | (simp <;> omega)) 4).trans (show _ = false by first | (with_reducible assumption) | go_simp); have mr5 := (hk2.cell (show w.heap.size ≠ b by assumption) (by first | omega | (simp <;> omega)) 5).trans (show _ = some (.int .i64 0) by first | (with_reducible assumption) | go_simp); have mfr5 := (hk2.frz (show w.heap.size ≠ b by assumption) (by first | omega | (simp <;> omega)) 5).trans (show _ = false by first | (with_reducible assumption) | go_simp); have mr6 := (hk2.cell (show w.heap.size ≠ b by assumption) (by first | omega | (simp <;> omega)) 6).trans (show _ = some (.int .i64 0) by first | (with_reducible assumption) | go_simp); have mfr6 := (hk2.frz (show w.heap.size ≠ b by assumption) (by first | omega | (simp <;> omega)) 6).trans (show _ = false by first | (with_reducible assumption) | go_simp); have HR2 := Lib.hid hr2; have HK2 := Lib.hid (show Kept (But b) w1 w2 from kept_trans (kept_ext extA) hk2); have HM2 := Lib.hid (RSl.more gStp (G := fun k => w1.heap.size < k) (fun k hk _ => by (try simp at hk); omega) hm2); have HI2 := Lib.hid hi2; clear hr2 hk2 hm2 hi2)) | (go_at_call 25; go_must ((with_reducible refine (HN2.out _ (rdAt_kept HR2.out (Z := fun k => k = b) (kept_set (p := ⟨w1.heap.size, 5, none⟩) (kept_set (p := ⟨w1.heap.size, 4, none⟩) kept_refl hdb _) hdb _) rfl)).mono ?_); rintro e w3 ⟨rfl, hr3, hk3⟩; have hz3 := hk3.size; (try simp at hz3); have pd0 := (hk3.cell (show w1.heap.size ≠ b by assumption) (by first | omega | (simp <;> omega)) 0).trans (show _ = some (.int .i64 2) by first | (with_reducible assumption) | go_simp); have pfd0 := (hk3.frz (show w1.heap.size ≠ b by assumption) (by first | omega | (simp <;> omega)) 0).trans (show _ = false by first | (with_reducible assumption) | go_simp); have pd1 := (hk3.cell (show w1.heap.size ≠ b by assumption) (by first | omega | (simp <;> omega)) 1).trans (show _ = some (.slice none 0 0) by first | (with_reducible assumption) | go_simp); have pfd1 := (hk3.frz (show w1.heap.size ≠ b by assumption) (by first | omega | (simp <;> omega)) 1).trans (show _ = false by first | (with_reducible assumption) | go_simp); have pd2 := (hk3.cell (show w1.heap.size ≠ b by assumption) (by first | omega | (simp <;> omega)) 2).trans (show _ = some (.int .i64 0) by first | (with_reducible assumption) | go_simp); have pfd2 := (hk3.frz (show w1.heap.size ≠ b by assumption) (by first | omega | (simp <;> omega)) 2).trans (show _ = false by first | (with_reducible assumption) | go_simp); have pd3 := (hk3.cell (show w1.heap.size ≠ b by assumption) (by first | omega | (simp <;> omega)) 3).trans (show _ = some (.string ⟨#[]⟩) by first | (with_reducible assumption) | go_simp); have pfd3 := (hk3.frz (show w1.heap.size ≠ b by assumption) (by first | omega | (simp <;> omega)) 3).trans (show _ = false by first | (with_reducible assumption) | go_simp); have pd4 := (hk3.cell (show w1.heap.size ≠ b by assumption) (by first | omega | (simp <;> omega)) 4).trans (show _ = some (.slice a2 n2 c2) by first | (with_reducible assumption) | go_simp); have pfd4 := (hk3.frz (show w1.heap.size ≠ b by assumption) (by first | omega | (simp <;> omega)) 4).trans (show _ = false by first | (with_reducible assumption) | go_simp); have pd5 := (hk3.cell (show w1.heap.size ≠ b by assumption) (by first | omega | (simp <;> omega)) 5).trans (show _ = some (.int .i64 mm.1.2) by first | (with_reducible assumption) | go_simp); have pfd5 := (hk3.frz (show w1.heap.size ≠ b by assumption) (by first | omega | (simp <;> omega)) 5).trans (show _ = false by first | (with_reducible assumption) | go_simp); have pd6 := (hk3.cell (show w1.heap.size ≠ b by assumption) (by first | omega | (simp <;> omega)) 6).trans (show _ = some (.int .i64 0) by first | (with_reducible assumption) | go_simp); have pfd6 := (hk3.frz (show w1.heap.size ≠ b by assumption) (by first | omega | (simp <;> omega)) 6).trans (show _ = false by first | (with_reducible assumption) | go_simp); have pr0 := (hk3.cell (show w.heap.size ≠ b by assumption) (by first | omega | (simp <;> omega)) 0).trans (show _ = some (.int .i64 0) by first | (with_reducible assumption) | go_simp); have pfr0 := (hk3.frz (show w.heap.size ≠ b by assumption) (by first | omega | (simp <;> omega)) 0).trans (show _ = false by first | (with_reducible assumption) | go_simp); have pr1 := (hk3.cell (show w.heap.size ≠ b by assumption) (by first | omega | (simp <;> omega)) 1).trans (show _ = some (.slice none 0 0) by first | (with_reducible assumption) | go_simp); have pfr1 := (hk3.frz (show w.heap.size ≠ b by assumption) (by first | omega | (simp <;> omega)) 1).trans (show _ = false by first | (with_reducible assumption) | go_simp); have pr2 := (hk3.cell (show w.heap.size ≠ b by assumption) (by first | omega | (simp <;> omega)) 2).trans (show _ = some (.int .i64 0) by first | (with_reducible assumption) | go_simp); have pfr2 := (hk3.frz (show w.heap.size ≠ b by assumption) (by first | omega | (simp <;> omega)) 2).trans (show _ = false by first | (with_reducible assumption) | go_simp); have pr3 := (hk3.cell (show w.heap.size ≠ b by assumption) (by first | omega | (simp <;> omega)) 3).trans (show _ = some (.string ⟨#[]⟩) by first | (with_reducible assumption) | go_simp); have pfr3 := (hk3.frz (show w.heap.size ≠ b by assumption) (by first | omega | (simp <;> omega)) 3).trans (show _ = false by first | (with_reducible assumption) | go_simp); have pr4 := (hk3.cell (show w.heap.size ≠ b by assumption) (by first | omega | (simp <;> omega)) 4).trans (show _ = some (.slice none 0 0) by first | (with_reducible assumption) | go_simp); have pfr4 := (hk3.frz (show w.heap.size ≠ b by assumption) (by first | omega | (simp <;> omega)) 4).trans (show _ = false by first | (with_reducible assumption) | go_simp); have pr5 := (hk3.cell (show w.heap.size ≠ b by assumption) (by first | omega | (simp <;> omega)) 5).trans (show _ = some (.int .i64 0) by first | (with_reducible assumption) | go_simp); have pfr5 := (hk3.frz (show w.heap.size ≠ b by assumption) (by first | omega | (simp <;> omega)) 5).trans (show _ = false by first | (with_reducible assumption) | go_simp); have pr6 := (hk3.cell (show w.heap.size ≠ b by assumption) (by first | omega | (simp <;> omega)) 6).trans (show _ = some (.int .i64 0) by first | (with_reducible assumption) | go_simp); have pfr6 := (hk3.frz (show w.heap.size ≠ b by assumption) (by first | omega | (simp <;> omega)) 6).trans (show _ = false by first | (with_reducible assumption) | go_simp); have HR3 := Lib.hid hr3; have HK3 := Lib.hid (show Kept (But b) _ w3 from hk3); clear hr3 hk3)))
  refine body_name (fun W9 hW9 => ?_)
  have z0 : W9.cell? ⟨w.heap.size, 0, none⟩ = some (.int .i64 2) := by rw [hW9]; go_simp
  have z1 : W9.cell? ⟨w.heap.size, 1, none⟩ = some (.slice none 0 0) := by rw [hW9]; go_simp
  have z2 : W9.cell? ⟨w.heap.size, 2, none⟩ = some (.int .i64 0) := by rw [hW9]; go_simp
  have z3 : W9.cell? ⟨w.heap.size, 3, none⟩ = some (.string ⟨#[]⟩) := by rw [hW9]; go_simp
  have z4 : W9.cell? ⟨w.heap.size, 4, none⟩ = some (.slice a2 n2 c2) := by rw [hW9]; go_simp
  have z5 : W9.cell? ⟨w.heap.size, 5, none⟩ = some (.int .i64 mm.1.2) := by rw [hW9]; go_simp
  have z6 : W9.cell? ⟨w.heap.size, 6, none⟩ = some (.int .i64 nn.1) := by rw [hW9]; go_simp
  have hk9 : ∀ Z : Nat → Prop, ¬ Z w1.heap.size → ¬ Z w.heap.size → Kept Z w3 W9 := by intro Z zd zr; rw [hW9]; repeat (first | (with_reducible exact kept_refl) | (with_reducible refine kept_set ?_ zd _) | (with_reducible refine kept_set ?_ zr _))
  clear hW9
  have hch : ∀ Z : Nat → Prop, ¬ Z b → ¬ Z w1.heap.size → ¬ Z w.heap.size → Kept Z w2 W9 := fun Z zb zd zr => kept_trans (kept_set (p := ⟨w1.heap.size, 5, none⟩) (kept_set (p := ⟨w1.heap.size, 4, none⟩) kept_refl zd _) zd _) (kept_trans (HK3.out.less (fun k hk e => zb (e ▸ hk))) (hk9 Z zd zr))
  refine bodyPost_ret (v := .agg #[.int .i64 2, .slice none 0 0, .int .i64 0, .string ⟨#[]⟩, .slice a2 n2 c2, .int .i64 mm.1.2, .int .i64 nn.1]) (by simp [results, Try.results29, go_sem, z0, z1, z2, z3, z4, z5, z6]) rfl ?_
  rw [HP.out]
  have h00 : I64 0 := ⟨by decide, by decide⟩
  refine ⟨[.int .i64 2, .slice none 0 0, .int .i64 0, .string ⟨#[]⟩, .slice a2 n2 c2, .int .i64 mm.1.2, .int .i64 nn.1], rfl, ⟨_, _, _, rfl, HIK.out, RSl.nil_ (Nat.zero_le _), h00, rtx_nil, RSl.more gStp (fun k hk _ => by have hk' : w1.heap.size < k := hk; show w.heap.size ≤ k; omega) (HM2.out.keep gStp (hch (fun k => w1.heap.size < k) (by omega) (by omega) (by omega)).keeps), HI2.out, HIN.out⟩, ?_, ?_⟩
  · exact rdAt_keptB HR3.out (hk9 (fun k => k = b) hdb hrb)
  · exact kept_lt (kept_trans (HK1.out.less (fun k hk => hk.2)) (kept_trans (HK2.out.less (fun k hk => hk.2)) (hch (fun k => k < w.heap.size ∧ k ≠ b) (fun h => h.2 rfl) (fun h => by have := h.1; omega) (fun h => by have := h.1; omega))))
end Go.Proofs.Ytiladkinndgeaaa
/- A deed that is read. -/
namespace Go.Proofs.Ytiladkinndgeaaa
open Go Go.RowKit Go.BigFrame Cp

set_option maxRecDepth 100000 in
set_option maxHeartbeats 4000000 in
theorem deedR3_any {w : World} {b : Nat} {r : PS} {x : Int × PS} (h : RdAt b r w) (hx : x = numP 1 r) (h1 : ¬ x.1 = 1) (h2 : ¬ x.1 = 2) :
    Calls Try.prog 29 #[.pointer (some ⟨b, 0, none⟩)] w (IsDeR b (deedP r) w) := by
  have hb := rdAt_lt h
  have hrb : w.heap.size ≠ b := by omega
  have HR := Lib.hid h
  have HN1 := Lib.hid (fun (W : World) (h : RdAt b r W) => num1_any h)
  have HIK := Lib.hid (num1_i64 r)
  rw [← hx] at HN1 HIK
  obtain ⟨k0, kr⟩ := x
  simp only at HIK h1 h2
  have HX := Lib.hid hx
  clear h hx
  have t1 : (k0 == 1) = false := by simpa using h1
  have t2 : (k0 == 2) = false := by simpa using h2
  have HP := Lib.hid (deedP_else HX.out h1 h2)
  clear HX h1 h2
  go_enter Try.func29, Try.ntmps29
  go_wp2_with (first | (go_at_call 25; ((with_reducible refine (HN1.out _ (rdAt_ext HR.out extA)).mono ?_); rintro e w1 ⟨rfl, hr1, hk1⟩; have hl1 : w.heap.size < w1.heap.size := Nat.lt_of_lt_of_le (by first | omega | (simp <;> omega)) hk1.size; have hdb : w1.heap.size ≠ b := (by omega); have hrd : ¬ w.heap.size = w1.heap.size := (by omega); have nr0 := (hk1.cell hrb (by first | omega | (simp <;> omega)) 0).trans (show _ = some (.int .i64 0) by first | (with_reducible assumption) | go_simp); have nfr0 := (hk1.frz hrb (by first | omega | (simp <;> omega)) 0).trans (show _ = false by first | (with_reducible assumption) | go_simp); have nr1 := (hk1.cell hrb (by first | omega | (simp <;> omega)) 1).trans (show _ = some (.slice none 0 0) by first | (with_reducible assumption) | go_simp); have nfr1 := (hk1.frz hrb (by first | omega | (simp <;> omega)) 1).trans (show _ = false by first | (with_reducible assumption) | go_simp); have nr2 := (hk1.cell hrb (by first | omega | (simp <;> omega)) 2).trans (show _ = some (.int .i64 0) by first | (with_reducible assumption) | go_simp); have nfr2 := (hk1.frz hrb (by first | omega | (simp <;> omega)) 2).trans (show _ = false by first | (with_reducible assumption) | go_simp); have nr3 := (hk1.cell hrb (by first | omega | (simp <;> omega)) 3).trans (show _ = some (.string ⟨#[]⟩) by first | (with_reducible assumption) | go_simp); have nfr3 := (hk1.frz hrb (by first | omega | (simp <;> omega)) 3).trans (show _ = false by first | (with_reducible assumption) | go_simp); have nr4 := (hk1.cell hrb (by first | omega | (simp <;> omega)) 4).trans (show _ = some (.slice none 0 0) by first | (with_reducible assumption) | go_simp); have nfr4 := (hk1.frz hrb (by first | omega | (simp <;> omega)) 4).trans (show _ = false by first | (with_reducible assumption) | go_simp); have nr5 := (hk1.cell hrb (by first | omega | (simp <;> omega)) 5).trans (show _ = some (.int .i64 0) by first | (with_reducible assumption) | go_simp); have nfr5 := (hk1.frz hrb (by first | omega | (simp <;> omega)) 5).trans (show _ = false by first | (with_reducible assumption) | go_simp); have nr6 := (hk1.cell hrb (by first | omega | (simp <;> omega)) 6).trans (show _ = some (.int .i64 0) by first | (with_reducible assumption) | go_simp); have nfr6 := (hk1.frz hrb (by first | omega | (simp <;> omega)) 6).trans (show _ = false by first | (with_reducible assumption) | go_simp); have HR1 := Lib.hid hr1; have HK1 := Lib.hid (show Kept (But b) w w1 from kept_trans (kept_ext extA) hk1); clear hr1 hk1 HN1); obtain ⟨⟨sb, hb0, hbs⟩, hb1, hbf0, hbf1, hbl⟩ := HR1.out; have hbw : b < w1.heap.size := World.block_lt_of_cell? _ _ hb1; have hbd : ¬ b = w1.heap.size := (by omega); have hbr : ¬ b = w.heap.size := (by omega)))
  refine body_name (fun W9 hW9 => ?_)
  have z0 : W9.cell? ⟨w.heap.size, 0, none⟩ = some (.int .i64 k0) := by rw [hW9]; go_simp
  have z1 : W9.cell? ⟨w.heap.size, 1, none⟩ = some (.slice none 0 0) := by rw [hW9]; go_simp
  have z2 : W9.cell? ⟨w.heap.size, 2, none⟩ = some (.int .i64 0) := by rw [hW9]; go_simp
  have z3 : W9.cell? ⟨w.heap.size, 3, none⟩ = some (.string ⟨#[]⟩) := by rw [hW9]; go_simp
  have z4 : W9.cell? ⟨w.heap.size, 4, none⟩ = some (.slice none 0 0) := by rw [hW9]; go_simp
  have z5 : W9.cell? ⟨w.heap.size, 5, none⟩ = some (.int .i64 0) := by rw [hW9]; go_simp
  have z6 : W9.cell? ⟨w.heap.size, 6, none⟩ = some (.int .i64 0) := by rw [hW9]; go_simp
  have hk9 : ∀ Z : Nat → Prop, ¬ Z b → ¬ Z w1.heap.size → ¬ Z w.heap.size → Kept Z w1 W9 := by intro Z zb zd zr; rw [hW9]; exact kept_trans (kept_set (p := ⟨w.heap.size, 6, none⟩) (kept_set (p := ⟨w.heap.size, 5, none⟩) (kept_set (p := ⟨w.heap.size, 4, none⟩) (kept_set (p := ⟨w.heap.size, 3, none⟩) (kept_set (p := ⟨w.heap.size, 2, none⟩) (kept_set (p := ⟨w.heap.size, 1, none⟩) (kept_set (p := ⟨w.heap.size, 0, none⟩) (kept_set (p := ⟨b, 1, none⟩) kept_refl zb _) zr _) zr _) zr _) zr _) zr _) zr _) zr _) (kept_ext (ext_alloc (ext_refl _) _))
  have hrd9 : RdAt b (kr.1, true) W9 := by rw [hW9]; refine ⟨⟨sb, ?_, hbs⟩, ?_, ?_, ?_, hbl⟩ <;> go_simp
  clear hW9
  refine bodyPost_ret (v := .agg #[.int .i64 k0, .slice none 0 0, .int .i64 0, .string ⟨#[]⟩, .slice none 0 0, .int .i64 0, .int .i64 0]) (by simp [results, Try.results29, go_sem, z0, z1, z2, z3, z4, z5, z6]) rfl ?_
  rw [HP.out]
  have h00 : I64 0 := ⟨by decide, by decide⟩
  refine ⟨[.int .i64 k0, .slice none 0 0, .int .i64 0, .string ⟨#[]⟩, .slice none 0 0, .int .i64 0, .int .i64 0], rfl, ⟨_, _, _, rfl, HIK.out, RSl.nil_ (Nat.zero_le _), h00, rtx_nil, RSl.nil_ (Nat.zero_le _), h00, h00⟩, ?_, ?_⟩
  · exact hrd9
  · exact kept_lt (kept_trans (HK1.out.less (fun k hk => hk.2)) (hk9 (fun k => k < w.heap.size ∧ k ≠ b) (fun h => h.2 rfl) (fun h => by have := h.1; omega) (fun h => by have := h.1; omega)))
theorem deedR_any {w : World} {b : Nat} {r : PS} (h : RdAt b r w) : Calls Try.prog 29 #[.pointer (some ⟨b, 0, none⟩)] w (IsDeR b (deedP r) w) := by
  by_cases h1 : (numP 1 r).1 = 1
  · exact deedR1_any h rfl h1
  · by_cases h2 : (numP 1 r).1 = 2
    · exact deedR2_any h rfl h2
    · exact deedR3_any h rfl h1 h2
end Go.Proofs.Ytiladkinndgeaaa
/- A note's needs, read. -/
namespace Go.Proofs.Ytiladkinndgeaaa
open Go Go.RowKit Go.BigFrame Cp

structure NInv (w0 : World) (N b p q : Nat) (st nu : Int) (l : List Int) (r : PS) (W : World) : Prop where
  rd : RdAt b r W
  pt : W.cell? ⟨p, 0, none⟩ = some (.pointer (some ⟨b, 0, none⟩))
  c0 : W.cell? ⟨q, 0, none⟩ = some (.int .i64 st)
  c1 : W.cell? ⟨q, 1, none⟩ = some (.int .i64 nu)
  c3 : W.cell? ⟨q, 3, none⟩ = some (.slice none 0 0)
  fz : W.frozen? ⟨q, 2, none⟩ = false ∧ W.frozen? ⟨q, 3, none⟩ = false
  ow : ∃ u, W.cell? ⟨q, 2, none⟩ = some u ∧ OSl RInt 1 3 (q + 1) (fun _ => True) W u l
  kp : Kept (fun k => k < N ∧ k ≠ b) w0 W
  lt : b < p ∧ p < q ∧ N ≤ q
theorem ninv_ext {w0 : World} {N b p q : Nat} {st nu : Int} (l : List Int) (r : PS) (W W' : World) (h : NInv w0 N b p q st nu l r W) (hx : Ext W W') : NInv w0 N b p q st nu l r W' := by
  have hp := World.block_lt_of_cell? _ _ h.pt
  have hq := World.block_lt_of_cell? _ _ h.c0
  obtain ⟨u, h1, h2⟩ := h.ow
  exact ⟨rdAt_ext h.rd hx, (hx.cells _ _ hp).trans h.pt, (hx.cells _ _ hq).trans h.c0, (hx.cells _ _ hq).trans h.c1, (hx.cells _ _ hq).trans h.c3, ⟨(hx.frz _ _ hq).trans h.fz.1, (hx.frz _ _ hq).trans h.fz.2⟩, ⟨u, (hx.cells _ _ hq).trans h1, osl_ext gInt h2 hx⟩, kept_trans h.kp (kept_ext hx), h.lt⟩
/-- a row's box, behind an append -/
theorem own_cell {α : Type} {R : Rd α} {sz e q of : Nat} {F : Nat → Prop} {l : List α} {w w1 w2 : World} {v : Value} (ho : OSl R sz e (q + 1) F w v l) (hc : w.cell? ⟨q, of, none⟩ = some v) (hf : w.frozen? ⟨q, of, none⟩ = false) (hg : w1.grownBy w2 v.ownBlock) (hx : Ext w w1) :
    w2.cell? ⟨q, of, none⟩ = some v ∧ w2.frozen? ⟨q, of, none⟩ = false := by
  have hq := World.block_lt_of_cell? _ _ hc
  have hqw : q < w1.heap.size := Nat.lt_of_lt_of_le hq hx.size
  have hqo : some q ≠ v.ownBlock := fun e => by have := (osl_lt ho q e.symm).1; omega
  exact ⟨(World.cell?_of_block (a := ⟨q, of, none⟩) (hg.block q hqw hqo)).trans ((hx.cells _ _ hq).trans hc), (World.frozen?_of_block (a := ⟨q, of, none⟩) (hg.block q hqw hqo)).trans ((hx.frz _ _ hq).trans hf)⟩
/-- what an append to a row of q's and its store leave alone -/
theorem own_kept {α : Type} {R : Rd α} {sz e q of n c : Nat} {F F' : Nat → Prop} {l l' : List α} {w3 w4 w5 : World} {v : Value} {x : Option Addr} (h3 : OSl R sz e (q + 1) F w3 v l) (ho : OSl R sz e (q + 1) F' w5 (.slice x n c) l') (hg : w4.grownBy w5 v.ownBlock) (hx : Ext w3 w4) :
    Kept (fun k => k ≤ q) w3 w5 ∧ (∀ j, j ≠ q → (w5.setCell ⟨q, of, none⟩ (.slice x n c)).heap[j]? = w5.heap[j]?) ∧ Kept (fun k => k < q) w3 (w5.setCell ⟨q, of, none⟩ (.slice x n c)) ∧ (∀ j, (Value.slice x n c).ownBlock = some j → q + 1 ≤ j) := by
  have hgk : Kept (fun j => j ≤ q) w3 w5 := kept_trans (kept_ext hx) (kept_grown hg (fun j hj e => by have := (osl_lt h3 j e.symm).1; omega))
  exact ⟨hgk, fun j hj => Below.heap_setCell _ _ _ j (fun e => hj e), kept_set (hgk.less (fun k hk => Nat.le_of_lt hk)) (fun h => Nat.lt_irrefl _ h) _, fun j hj => (osl_lt ho j hj).1⟩
theorem ninv_store {w0 w w3 w4 w5 : World} {N b p q : Nat} {st nu : Int} {l l' : List Int} {r r3 : PS} {v : Value} {x : Option Addr} {n c : Nat} (h : NInv w0 N b p q st nu l r w) (k3 : Kept (But b) w w3) (hr : RdAt b r3 w3)
    (h3 : OSl RInt 1 3 (q + 1) (fun _ => True) w3 v l) (hg : w4.grownBy w5 v.ownBlock) (hx : Ext w3 w4)
    (ho : OSl RInt 1 3 (q + 1) (fun _ => True) w5 (.slice x n c) l') : NInv w0 N b p q st nu l' r3 (w5.setCell ⟨q, 2, none⟩ (.slice x n c)) := by
  obtain ⟨lt1, lt2, lt3⟩ := h.lt
  have hb := rdAt_lt hr
  have hpw := World.block_lt_of_cell? _ _ h.pt
  have hqw := World.block_lt_of_cell? _ _ h.c0
  obtain ⟨hgk, hset, hkl, ho'⟩ := own_kept (of := 2) h3 ho hg hx
  have hk5 : Kept (fun j => j ≤ q ∧ j ≠ b) w w5 := kept_trans (k3.less (fun j hj => hj.2)) (hgk.less (fun j hj => hj.1))
  have hqb : q ≤ q ∧ q ≠ b := by omega
  obtain ⟨u, hu, _⟩ := h.ow
  have hz := (hk5.cell hqb hqw 2).trans hu
  have hk9 : Kept (fun k => k < q ∧ k ≠ b) w (w5.setCell ⟨q, 2, none⟩ (.slice x n c)) := kept_trans (k3.less (fun j hj => hj.2)) (hkl.less (fun j hj => hj.1))
  refine ⟨rdAt_kept hr hkl (show b < q by omega), (hk9.cell (show p < q ∧ p ≠ b by omega) hpw 0).trans h.pt, ?_, ?_, ?_, ⟨?_, ?_⟩, ⟨_, World.cell?_setCell_same _ _ _ hz, ?_⟩, ?_, h.lt⟩
  · rw [World.cell?_setCell_other (h := by intro e; injection e with _ e; cases e)]; exact (hk5.cell hqb hqw 0).trans h.c0
  · rw [World.cell?_setCell_other (h := by intro e; injection e with _ e; cases e)]; exact (hk5.cell hqb hqw 1).trans h.c1
  · rw [World.cell?_setCell_other (h := by intro e; injection e with _ e; cases e)]; exact (hk5.cell hqb hqw 3).trans h.c3
  · rw [World.frozen?_setCell]; exact (hk5.frz hqb hqw 2).trans h.fz.1
  · rw [World.frozen?_setCell]; exact (hk5.frz hqb hqw 3).trans h.fz.2
  · exact osl_lkeep lf_int ho fun j hj => hset j (fun e => by have := ho' j hj; omega)
  · exact kept_trans h.kp (hk9.less fun j hj => ⟨Nat.lt_of_lt_of_le hj.1 lt3, hj.2⟩)
theorem int_len {a : Nat} (h : a ≤ 500) : a + 1 ≤ maxLen := Nat.le_trans (by omega : a + 1 ≤ 501) (by unfold maxLen; decide)
theorem int_byt {a : Nat} (h : a ≤ 500) : (a + 1) * 8 ≤ 140737488355328 := by omega
theorem osl_keptI {e B b : Nat} {F : Nat → Prop} {w w' : World} {v : Value} {l : List Int} (h : OSl RInt 1 e B F w v l) (hk : Kept (But b) w w') (hb : b < B) : OSl RInt 1 e B F w' v l :=
  osl_lkeep lf_int h fun k hk' => by have := osl_lt h k hk'; exact hk.block k (show k ≠ b by omega) this.2
set_option maxRecDepth 100000 in
set_option maxHeartbeats 4000000 in
theorem dec1_any {w0 w : World} {N b p q : Nat} {st nu : Int} {l : List Int} {r : PS} (hl : l.length ≤ 500) (h : NInv w0 N b p q st nu l r w) :
    Calls Try.prog 27 #[.pointer (some ⟨p, 0, none⟩), .pointer (some ⟨q, 0, none⟩)] w fun e w' => e = .returned (.tuple #[]) ∧ NInv w0 N b p q st nu (l ++ [(numP 2 r).1]) (numP 2 r).2 w' := by
  have HM := Lib.hid h
  obtain ⟨hrd, hpt, hc0, hc1, hc3, ⟨hf0, hf1⟩, ⟨u, hu, ho⟩, hkp, hlt1, hlt2, hlt3⟩ := h
  have hb := rdAt_lt hrd
  have hp := World.block_lt_of_cell? _ _ hpt
  have hq := World.block_lt_of_cell? _ _ hc0
  have HN1 := Lib.hid (num2_any hrd)
  have HO := Lib.hid ho
  obtain ⟨a3, n3, c3, rfl⟩ := osl_slice ho
  obtain rfl := (osl_len ho).1
  have hpb : p ≠ b := by omega
  have hqb : q ≠ b := by omega
  have HI1 := Lib.hid (num2_i64 r)
  generalize numP 2 r = x at *
  have HLL := Lib.hid hl
  obtain ⟨i0, hi0, hz0, hz1', hz2⟩ := info_parts info_int
  have HJ := Lib.hid hi0
  have HZ0 := Lib.hid hz0
  have HZ1 := Lib.hid hz1'
  have HZ2 := Lib.hid hz2
  clear hi0 hz0 hz1' hz2 ho hrd hkp hl hc0 hc1 hc3 hf1
  go_enter Try.func27, Try.ntmps27
  go_wp2_with (first | (go_at_call 25; go_must ((with_reducible refine (HN1.out).mono ?_); rintro e w3 ⟨rfl, hr3, hk3⟩; have HR3 := Lib.hid hr3; have HK3 := Lib.hid hk3; have q3 := (hk3.cell hqb hq 2).trans hu; have f3 := (hk3.frz hqb hq 2).trans hf0; have HO3 := Lib.hid (osl_keptI HO.out hk3 (by omega)); have hq3 : q < w3.heap.size := World.block_lt_of_cell? _ _ q3; have hqn : ¬ q = w3.heap.size := (by omega); clear hk3 hr3)) | (at_builtin; go_must (refine wpList_appAll gInt rfl (.tmp 6) (.tmp 8) 22 rfl (q + 1) 3 i0 _ 1 8 Try.underlying22 HJ.out HZ0.out HZ1.out HZ2.out rfl (by omega) (F := fun _ => True) (G := fun j => j = w3.heap.size) (.slice a3 l.length c3) l rfl (osl_ext gInt HO3.out extA) (.slice (some ⟨w3.heap.size, 0, none⟩) 1 1) [x.1] rfl (rd_one rfl (rangeAt1 (by first | (with_reducible assumption) | go_simp)) (show RInt _ _ [_] x.1 from ⟨rfl, HI1.out⟩) rfl (by first | omega | (simp <;> omega)) (Nat.le_refl _) (by unfold maxLen; omega)) one_int (fun j hj _ => ⟨trivial, fun e => by have := (osl_lt HO3.out j e.symm).2; omega⟩) (int_len HLL.out) (int_byt HLL.out) (by first | omega | (simp <;> omega)) ?_; intro v9 w9 hown9 hg9 hat9; obtain ⟨a9, n9, c9, rfl⟩ := osl_slice hown9; have HFIN := Lib.hid (ninv_store HM.out HK3.out HR3.out HO3.out hg9 extA hown9); obtain ⟨hc9, hf9⟩ := own_cell HO3.out q3 f3 hg9 extA; clear hg9 hat9 hown9)))
  go_end0
  exact ⟨rfl, HFIN.out⟩
end Go.Proofs.Ytiladkinndgeaaa
/- The document's reader of bytes: one, two. -/
namespace Go.Proofs.Ytiladkinndgeaaa
open Go Go.RowKit Go.BigFrame Cp

/-- the document's reader in its box: what is read, from where on, and whether there was too little -/
def TkAt (b : Nat) (S : ByteArray) (r : PS) (w : World) : Prop := ∃ i : Nat, w.cell? ⟨b, 0, none⟩ = some (.string S) ∧ w.cell? ⟨b, 1, none⟩ = some (.int .i64 i) ∧ w.cell? ⟨b, 2, none⟩ = some (.bool r.2) ∧
  S.data.toList.drop i = r.1 ∧ i ≤ S.size ∧ w.frozen? ⟨b, 1, none⟩ = false ∧ w.frozen? ⟨b, 2, none⟩ = false ∧ S.size ≤ 140737488351232
section
variable {b : Nat} {S : ByteArray} {r : PS} {w w' : World}
theorem tkAt_lt (h : TkAt b S r w) : b < w.heap.size := by obtain ⟨i, h1, _⟩ := h; exact World.block_lt_of_cell? _ _ h1
theorem tkAt_kept {Z : Nat → Prop} (h : TkAt b S r w) (hk : Kept Z w w') (hz : Z b) : TkAt b S r w' := by
  have hb := tkAt_lt h
  obtain ⟨i, h1, h2, h3, h4, h5, h6, h7, h8⟩ := h
  exact ⟨i, (hk.cell hz hb 0).trans h1, (hk.cell hz hb 1).trans h2, (hk.cell hz hb 2).trans h3, h4, h5, (hk.frz hz hb 1).trans h6, (hk.frz hz hb 2).trans h7, h8⟩
theorem tkAt_keptB (h : TkAt b S r w) (hk : Kept (fun k => k = b) w w') : TkAt b S r w' := tkAt_kept (Z := fun k => k = b) h hk rfl
theorem tkAt_ext (h : TkAt b S r w) (hx : Ext w w') : TkAt b S r w' := tkAt_kept (Z := fun _ => True) h (kept_ext hx) trivial
end
def IsOne (b : Nat) (S : ByteArray) (x : Int × PS) (w : World) (e : Ending) (w' : World) : Prop := e = .returned (.int .i64 x.1) ∧ TkAt b S x.2 w' ∧ Kept (But b) w w'
theorem oneR_bad {r : PS} (h : r.2 = true ∨ r.1 = []) : oneR r = (0, (r.1, true)) := by unfold oneR; rw [if_pos h]
theorem oneR_good {c : UInt8} {t : Tx} : oneR (c :: t, false) = ((c.toNat : Int), (t, false)) := by unfold oneR; rw [if_neg (by simp)]; rfl
set_option maxRecDepth 100000 in
set_option maxHeartbeats 4000000 in
theorem one_any {w : World} {b : Nat} {S : ByteArray} {r : PS} (h : TkAt b S r w) :
    Calls Try.prog 35 #[.pointer (some ⟨b, 0, none⟩)] w (IsOne b S (oneR r) w) := by
  have hb := tkAt_lt h
  obtain ⟨i, h0, h1, h2, h3, h4, h5, h6, h7⟩ := h
  obtain ⟨t, sh⟩ := r
  simp only at h2 h3
  cases sh with
  | true =>
    have HS := Lib.hid (oneR_bad (r := (t, true)) (.inl rfl))
    have HT := Lib.hid h3
    have HL := Lib.hid h7
    have HI := Lib.hid h4
    clear h3 h7
    go_enter Try.func35, Try.ntmps35
    go_wp2_with fail
    refine wp_name (fun W eW => ?_)
    have e0 : W.cell? ⟨b, 0, none⟩ = some (.string S) := by rw [eW]; go_simp
    have e1 : W.cell? ⟨b, 1, none⟩ = some (.int .i64 i) := by rw [eW]; go_simp
    have e2 : W.cell? ⟨b, 2, none⟩ = some (.bool true) := by rw [eW]; go_simp
    have k1 : W.frozen? ⟨b, 1, none⟩ = false := by rw [eW]; go_simp
    have k2 : W.frozen? ⟨b, 2, none⟩ = false := by rw [eW]; go_simp
    have zW : b < W.heap.size := World.block_lt_of_cell? _ _ e0
    have hxw := Lib.hid (show Kept (But b) w W by rw [eW]; exact (by first | exact kept_refl | exact kept_ext extA))
    clear eW
    refine wp_region_later fol (by kernel_rfl) (fun hlater => ?_)
    repeat (go_big_quiet_step (fail))
    refine wpQuiet_nil ?_
    rintro w3 ⟨⟨w3x, hx3⟩, rfl⟩
    clear hlater
    have d0_3 := (hx3.cells _ 0 zW).trans e0
    have d1_3 := (hx3.cells _ 1 zW).trans e1
    have d2_3 := (hx3.cells _ 2 zW).trans e2
    have j1_3 := (hx3.frz _ 1 zW).trans k1
    have j2_3 := (hx3.frz _ 2 zW).trans k2
    have hk3 := Lib.hid (show Kept (But b) w w3 from kept_trans hxw.out (kept_ext hx3))
    clear e0 e1 e2 k1 k2 zW hxw
    go_wp2_with fail
    go_ret
    rw [HS.out]
    exact ⟨rfl, ⟨i, by go_simp, by go_simp, by go_simp, HT.out, HI.out, by go_simp, by go_simp, HL.out⟩, kept_set (p := ⟨b, 2, none⟩) hk3.out (fun h => h rfl) _⟩
  | false =>
    have hil : i ≤ 140737488351232 := Nat.le_trans h4 h7
    cases t with
    | nil =>
      have hi : i = S.size := by
        have := List.drop_eq_nil_iff.1 h3
        rw [Array.length_toList] at this
        exact Nat.le_antisymm h4 this
      have HS := Lib.hid (oneR_bad (r := (([] : Tx), false)) (.inr rfl))
      have HT := Lib.hid h3
      have HL := Lib.hid h7
      have HI := Lib.hid h4
      have t1 : decide ((S.size : Int) ≤ (i : Int)) = true := decide_eq_true (by omega)
      have t2 : decide (S.size ≤ i) = true := decide_eq_true (by omega)
      clear h3 h7 hi
      go_enter Try.func35, Try.ntmps35
      go_wp2_with fail
      refine wp_name (fun W eW => ?_)
      have e0 : W.cell? ⟨b, 0, none⟩ = some (.string S) := by rw [eW]; go_simp
      have e1 : W.cell? ⟨b, 1, none⟩ = some (.int .i64 i) := by rw [eW]; go_simp
      have e2 : W.cell? ⟨b, 2, none⟩ = some (.bool false) := by rw [eW]; go_simp
      have k1 : W.frozen? ⟨b, 1, none⟩ = false := by rw [eW]; go_simp
      have k2 : W.frozen? ⟨b, 2, none⟩ = false := by rw [eW]; go_simp
      have zW : b < W.heap.size := World.block_lt_of_cell? _ _ e0
      have hxw := Lib.hid (show Kept (But b) w W by rw [eW]; exact (by first | exact kept_refl | exact kept_ext extA))
      clear eW
      refine wp_region_later fol (by kernel_rfl) (fun hlater => ?_)
      repeat (go_big_quiet_step (fail))
      refine wpQuiet_nil ?_
      rintro w3 ⟨⟨w3x, hx3⟩, rfl⟩
      clear hlater
      have d0_3 := (hx3.cells _ 0 zW).trans e0
      have d1_3 := (hx3.cells _ 1 zW).trans e1
      have d2_3 := (hx3.cells _ 2 zW).trans e2
      have j1_3 := (hx3.frz _ 1 zW).trans k1
      have j2_3 := (hx3.frz _ 2 zW).trans k2
      have hk3 := Lib.hid (show Kept (But b) w w3 from kept_trans hxw.out (kept_ext hx3))
      clear e0 e1 e2 k1 k2 zW hxw
      go_wp2_with fail
      go_ret
      rw [HS.out]
      exact ⟨rfl, ⟨i, by go_simp, by go_simp, by go_simp, HT.out, HI.out, by go_simp, by go_simp, HL.out⟩, kept_set (p := ⟨b, 2, none⟩) hk3.out (fun h => h rfl) _⟩
    | cons c t =>
      have hi : i < S.size := by
        rcases Nat.lt_or_ge i S.size with h | h
        · exact h
        · rw [List.drop_eq_nil_iff.2 (by rw [Array.length_toList]; exact h)] at h3; cases h3
      have hc : S[i] = c ∧ S.data.toList.drop (i + 1) = t := by
        have := (List.drop_eq_getElem_cons (l := S.data.toList) (i := i) (by rw [Array.length_toList]; exact hi)).symm.trans h3
        injection this with e1 e2
        exact ⟨by rw [← e1]; simp; rfl, e2⟩
      have HC := Lib.hid hc.1
      have HT := Lib.hid hc.2
      have HL := Lib.hid h7
      have HS := Lib.hid (oneR_good (c := c) (t := t))
      have t1 : decide ((S.size : Int) ≤ (i : Int)) = false := decide_eq_false (by omega)
      have t2 : decide (S.size ≤ i) = false := decide_eq_false (by omega)
      clear h3 h7 hc
      go_enter Try.func35, Try.ntmps35
      go_wp2_with fail
      refine wp_name (fun W eW => ?_)
      have e0 : W.cell? ⟨b, 0, none⟩ = some (.string S) := by rw [eW]; go_simp
      have e1 : W.cell? ⟨b, 1, none⟩ = some (.int .i64 i) := by rw [eW]; go_simp
      have e2 : W.cell? ⟨b, 2, none⟩ = some (.bool false) := by rw [eW]; go_simp
      have k1 : W.frozen? ⟨b, 1, none⟩ = false := by rw [eW]; go_simp
      have k2 : W.frozen? ⟨b, 2, none⟩ = false := by rw [eW]; go_simp
      have zW : b < W.heap.size := World.block_lt_of_cell? _ _ e0
      have hxw := Lib.hid (show Kept (But b) w W by rw [eW]; exact (by first | exact kept_refl | exact kept_ext extA))
      clear eW
      refine wp_region_later fol (by kernel_rfl) (fun hlater => ?_)
      repeat (go_big_quiet_step (fail))
      refine wpQuiet_nil ?_
      rintro w3 ⟨⟨w3x, hx3⟩, rfl⟩
      clear hlater
      have d0_3 := (hx3.cells _ 0 zW).trans e0
      have d1_3 := (hx3.cells _ 1 zW).trans e1
      have d2_3 := (hx3.cells _ 2 zW).trans e2
      have j1_3 := (hx3.frz _ 1 zW).trans k1
      have j2_3 := (hx3.frz _ 2 zW).trans k2
      have hk3 := Lib.hid (show Kept (But b) w w3 from kept_trans hxw.out (kept_ext hx3))
      clear e0 e1 e2 k1 k2 zW hxw
      go_wp2_with fail
      refine wp_name (fun V eV => ?_)
      have e0 : V.cell? ⟨b, 0, none⟩ = some (.string S) := by rw [eV]; go_simp
      have e1 : V.cell? ⟨b, 1, none⟩ = some (.int .i64 ((i : Int) + 1)) := by rw [eV]; go_simp
      have e2 : V.cell? ⟨b, 2, none⟩ = some (.bool false) := by rw [eV]; go_simp
      have k1 : V.frozen? ⟨b, 1, none⟩ = false := by rw [eV]; go_simp
      have k2 : V.frozen? ⟨b, 2, none⟩ = false := by rw [eV]; go_simp
      have zW : b < V.heap.size := World.block_lt_of_cell? _ _ e0
      have hxw := Lib.hid (show Kept (But b) w V by rw [eV]; exact (kept_set (p := ⟨b, 1, none⟩) hk3.out (fun h => h rfl) _))
      clear eV
      refine wp_region_later fol (by kernel_rfl) (fun hlater => ?_)
      repeat (go_big_quiet_step (fail))
      refine wpQuiet_nil ?_
      rintro w5 ⟨⟨w5x, hx5⟩, rfl⟩
      clear hlater
      have d0_5 := (hx5.cells _ 0 zW).trans e0
      have d1_5 := (hx5.cells _ 1 zW).trans e1
      have d2_5 := (hx5.cells _ 2 zW).trans e2
      have j1_5 := (hx5.frz _ 1 zW).trans k1
      have j2_5 := (hx5.frz _ 2 zW).trans k2
      have hk5 := Lib.hid (show Kept (But b) w w5 from kept_trans hxw.out (kept_ext hx5))
      clear e0 e1 e2 k1 k2 zW hxw
      go_wp2_with fail
      go_ret
      rw [HS.out]
      refine ⟨?_, ⟨i + 1, d0_5, d1_5, d2_5, HT.out, hi, j1_5, j2_5, HL.out⟩, hk5.out⟩
      show Ending.returned (.int .i64 (wrap64 (S[i].toNat : Int))) = _
      rw [wrap_byte, HC.out]
end Go.Proofs.Ytiladkinndgeaaa
/- A note's deeds, read. -/
namespace Go.Proofs.Ytiladkinndgeaaa
open Go Go.RowKit Go.BigFrame Cp

structure DInv (w0 : World) (N b p q : Nat) (st nu : Int) (ns : List Int) (l : List De) (r : PS) (W : World) : Prop where
  rd : RdAt b r W
  pt : W.cell? ⟨p, 0, none⟩ = some (.pointer (some ⟨b, 0, none⟩))
  c0 : W.cell? ⟨q, 0, none⟩ = some (.int .i64 st)
  c1 : W.cell? ⟨q, 1, none⟩ = some (.int .i64 nu)
  fz : W.frozen? ⟨q, 3, none⟩ = false
  ow : ∃ v u, W.cell? ⟨q, 2, none⟩ = some v ∧ W.cell? ⟨q, 3, none⟩ = some u ∧ RSl RInt 1 (fun k => q < k ∧ some k ≠ u.ownBlock) W v ns ∧ OSl RDe 7 60 (q + 1) (fun k => q < k) W u l
  kp : Kept (fun k => k < N ∧ k ≠ b) w0 W
  lt : b < p ∧ p < q ∧ N ≤ q
theorem dinv_ext {w0 : World} {N b p q : Nat} {st nu : Int} {ns : List Int} (l : List De) (r : PS) (W W' : World) (h : DInv w0 N b p q st nu ns l r W) (hx : Ext W W') : DInv w0 N b p q st nu ns l r W' := by
  have hp := World.block_lt_of_cell? _ _ h.pt
  have hq := World.block_lt_of_cell? _ _ h.c0
  obtain ⟨v, u, h1, h2, h3, h4⟩ := h.ow
  exact ⟨rdAt_ext h.rd hx, (hx.cells _ _ hp).trans h.pt, (hx.cells _ _ hq).trans h.c0, (hx.cells _ _ hq).trans h.c1, (hx.frz _ _ hq).trans h.fz, ⟨v, u, (hx.cells _ _ hq).trans h1, (hx.cells _ _ hq).trans h2, h3.ext gInt hx, osl_ext gDe h4 hx⟩, kept_trans h.kp (kept_ext hx), h.lt⟩
theorem osl_keptD {e B b : Nat} {w w' : World} {v : Value} {l : List De} (h : OSl RDe 7 e (B + 1) (fun k => B < k) w v l) (hk : Kept (But b) w w') (hb : b ≤ B) : OSl RDe 7 e (B + 1) (fun k => B < k) w' v l :=
  osl_keep gDe h ⟨hk.size, fun k hk' hl => hk.block k (show k ≠ b from by
    rcases hk' with hk' | hk'
    · have h' : B < k := hk'
      omega
    · have := (osl_lt h k hk'.symm).1; omega) hl⟩
theorem dinv_store {w0 w w3 w4 w5 : World} {N b p q : Nat} {st nu : Int} {ns : List Int} {l l' : List De} {r r3 : PS} {vn v : Value} {x : Option Addr} {n c : Nat} (h : DInv w0 N b p q st nu ns l r w) (k3 : Kept (But b) w w3) (hr : RdAt b r3 w3)
    (hn : w3.cell? ⟨q, 2, none⟩ = some vn) (hns : RSl RInt 1 (fun k => q < k ∧ some k ≠ v.ownBlock) w3 vn ns)
    (h3 : OSl RDe 7 60 (q + 1) (fun k => q < k) w3 v l) (hg : w4.grownBy w5 v.ownBlock) (hx : Ext w3 w4) (hat : (Value.slice x n c).ownBlock = v.ownBlock ∨ (Value.slice x n c).ownBlock = some w4.heap.size)
    (ho : OSl RDe 7 60 (q + 1) (fun k => q < k) w5 (.slice x n c) l') : DInv w0 N b p q st nu ns l' r3 (w5.setCell ⟨q, 3, none⟩ (.slice x n c)) := by
  obtain ⟨lt1, lt2, lt3⟩ := h.lt
  have hb := rdAt_lt hr
  have hpw := World.block_lt_of_cell? _ _ h.pt
  have hqw := World.block_lt_of_cell? _ _ h.c0
  have hq3 := World.block_lt_of_cell? _ _ hn
  obtain ⟨hgk, hset, hkl, ho'⟩ := own_kept (of := 3) h3 ho hg hx
  have hk5 : Kept (fun j => j ≤ q ∧ j ≠ b) w w5 := kept_trans (k3.less (fun j hj => hj.2)) (hgk.less (fun j hj => hj.1))
  have hqb : q ≤ q ∧ q ≠ b := by omega
  obtain ⟨_, u, _, hu, _⟩ := h.ow
  have hz := (hk5.cell hqb hqw 3).trans hu
  have hk9 : Kept (fun k => k < q ∧ k ≠ b) w (w5.setCell ⟨q, 3, none⟩ (.slice x n c)) := kept_trans (k3.less (fun j hj => hj.2)) (hkl.less (fun j hj => hj.1))
  have hs34 := hx.size
  have hs35 := hgk.size
  have hkn : Keeps (fun k => (q < k ∧ some k ≠ v.ownBlock)) w3 (w5.setCell ⟨q, 3, none⟩ (.slice x n c)) :=
    ⟨by rw [show (w5.setCell ⟨q, 3, none⟩ (.slice x n c)).heap.size = w5.heap.size by simp]; exact hs35, fun k hk hl => (hset k (show k ≠ q from by have := hk.1; omega)).trans ((hg.block k (by omega) (fun e => hk.2 e)).trans (Below.block hx k hl))⟩
  refine ⟨rdAt_kept hr hkl (show b < q by omega), (hk9.cell (show p < q ∧ p ≠ b by omega) hpw 0).trans h.pt, ?_, ?_, ?_, ⟨vn, _, ?_, World.cell?_setCell_same _ _ _ hz, ?_, ?_⟩, ?_, h.lt⟩
  · rw [World.cell?_setCell_other (h := by intro e; injection e with _ e; cases e)]; exact (hk5.cell hqb hqw 0).trans h.c0
  · rw [World.cell?_setCell_other (h := by intro e; injection e with _ e; cases e)]; exact (hk5.cell hqb hqw 1).trans h.c1
  · rw [World.frozen?_setCell]; exact (hk5.frz hqb hqw 3).trans h.fz
  · rw [World.cell?_setCell_other (h := by intro e; injection e with _ e; cases e)]; exact (hgk.cell (Nat.le_refl q) hq3 2).trans hn
  · have hl3 : RSl RInt 1 (fun k => (q < k ∧ some k ≠ v.ownBlock) ∧ k < w3.heap.size) w3 vn ns := RSl.more gInt (fun k hk hl => ⟨hk, hl⟩) hns
    refine RSl.more gInt (fun k hk _ => ⟨hk.1.1, fun e => ?_⟩) (RSl.keep gInt (hkn.weaken (G := fun k => (q < k ∧ some k ≠ v.ownBlock) ∧ k < w3.heap.size) (fun k _ h => h.1)) hl3)
    rcases hat with h | h
    · exact hk.1.2 (e.trans h)
    · rw [h] at e; injection e with e; have := hk.2; omega
  · refine osl_keep gDe ho ⟨by simp, fun k hk _ => hset k (fun e => ?_)⟩
    rcases hk with hk | hk
    · have h' : q < k := hk
      omega
    · have := ho' k hk.symm; omega
  · exact kept_trans h.kp (hk9.less fun j hj => ⟨Nat.lt_of_lt_of_le hj.1 lt3, hj.2⟩)
theorem kept_rsl {b q : Nat} {w w3 : World} {v u : Value} {ns : List Int} (h : RSl RInt 1 (fun k => q < k ∧ some k ≠ u.ownBlock) w v ns) (hk : Kept (But b) w w3) (hb : b ≤ q) : RSl RInt 1 (fun k => q < k ∧ some k ≠ u.ownBlock) w3 v ns :=
  RSl.keep gInt ⟨hk.size, fun k hk' hl => hk.block k (show k ≠ b from by have := hk'.1; omega) hl⟩ h
set_option maxRecDepth 100000 in
set_option maxHeartbeats 4000000 in
theorem dec2_any {w0 w : World} {N b p q : Nat} {st nu : Int} {ns : List Int} {l : List De} {r : PS} (hl : l.length ≤ 500) (h : DInv w0 N b p q st nu ns l r w) :
    Calls Try.prog 28 #[.pointer (some ⟨p, 0, none⟩), .pointer (some ⟨q, 0, none⟩)] w fun e w' => e = .returned (.tuple #[]) ∧ DInv w0 N b p q st nu ns (l ++ [(deedP r).1]) (deedP r).2 w' := by
  have HM := Lib.hid h
  obtain ⟨hrd, hpt, hc0, hc1, hf0, ⟨vn, u, hn, hu, hns, ho⟩, hkp, hlt1, hlt2, hlt3⟩ := h
  have hb := rdAt_lt hrd
  have hp := World.block_lt_of_cell? _ _ hpt
  have hq := World.block_lt_of_cell? _ _ hc0
  have HN1 := Lib.hid (deedR_any hrd)
  have HO := Lib.hid ho
  have HNS := Lib.hid hns
  obtain ⟨a3, n3, c3, rfl⟩ := osl_slice ho
  obtain rfl := (osl_len ho).1
  obtain ⟨a4, n4, c4, rfl⟩ := hns.slice
  have hpb : p ≠ b := by omega
  have hqb : q ≠ b := by omega
  generalize deedP r = x at *
  have HLL := Lib.hid (show l.length ≤ 1000 by omega)
  obtain ⟨i0, hi0, hz0, hz1', hz2⟩ := info_parts info_deG
  have HJ := Lib.hid hi0
  have HZ0 := Lib.hid hz0
  have HZ1 := Lib.hid hz1'
  have HZ2 := Lib.hid hz2
  clear hi0 hz0 hz1' hz2 ho hrd hkp hl hc0 hc1 hns
  go_enter Try.func28, Try.ntmps28
  go_wp2_with (first | (go_at_call 29; go_must ((with_reducible refine (HN1.out).mono ?_); rintro e w3 ⟨cs, rfl, hd3, hr3, hk3⟩; have HD3 := Lib.hid hd3; obtain ⟨y1, y2, y3, rfl, _, z1, _, ⟨rfl, _⟩, z2, _, _⟩ := hd3; obtain ⟨e1, m1, k1, rfl⟩ := z1.slice; obtain ⟨e2, m2, k2, rfl⟩ := z2.slice; have HR3 := Lib.hid hr3; have HK3 := Lib.hid hk3; have q3 := (hk3.cell hqb hq 3).trans hu; have f3 := (hk3.frz hqb hq 3).trans hf0; have n3' := Lib.hid ((hk3.cell hqb hq 2).trans hn); have HO3 := Lib.hid (osl_keptD HO.out hk3 (by omega)); have HS3 := Lib.hid (kept_rsl HNS.out hk3 (by omega)); have hq3 : q < w3.heap.size := World.block_lt_of_cell? _ _ q3; have hqn : ¬ q = w3.heap.size := (by omega); have hs3 := hk3.size; clear hk3 hr3 z1 z2)) | (at_builtin; go_must (refine wpList_appAll gDe rfl (.tmp 6) (.tmp 8) 23 rfl (q + 1) 60 i0 _ 7 96 Try.underlying23 HJ.out HZ0.out HZ1.out HZ2.out rfl (by omega) (F := fun k => q < k) (G := fun j => w.heap.size ≤ j) (.slice a3 l.length c3) l rfl (osl_ext gDe HO3.out extA) (.slice (some ⟨w3.heap.size + 1, 0, none⟩) 1 1) [x.1] rfl (rd_one rfl (rangeAt7G (by first | (with_reducible assumption) | go_simp) (by first | (with_reducible assumption) | go_simp) (by first | (with_reducible assumption) | go_simp) (by first | (with_reducible assumption) | go_simp) (by first | (with_reducible assumption) | go_simp) (by first | (with_reducible assumption) | go_simp) (by first | (with_reducible assumption) | go_simp)) (gDe.ext HD3.out extA) (by first | omega | (simp <;> omega)) (by first | omega | (simp <;> omega)) (Nat.le_refl _) (by unfold maxLen; omega)) one_deG (fun j hj _ => ⟨by have hj' : w.heap.size ≤ j := hj; omega, fun e => by have := (osl_lt HO.out j e.symm).2; have hj' : w.heap.size ≤ j := hj; omega⟩) (deG_len HLL.out) (deG_byt HLL.out) (by first | omega | (simp <;> omega)) ?_; intro v9 w9 hown9 hg9 hat9; obtain ⟨a9, n9, c9, rfl⟩ := osl_slice hown9; have HFIN := Lib.hid (dinv_store HM.out HK3.out HR3.out n3'.out HS3.out HO3.out hg9 extA hat9 hown9); obtain ⟨hc9, hf9⟩ := own_cell HO3.out q3 f3 hg9 extA; clear hg9 hat9 hown9)))
  go_end0
  exact ⟨rfl, HFIN.out⟩
end Go.Proofs.Ytiladkinndgeaaa
/- The document's reader: two bytes, a mark. -/
namespace Go.Proofs.Ytiladkinndgeaaa
open Go Go.RowKit Go.BigFrame Cp

theorem one_nat (r : PS) : ∃ n : Nat, (oneR r).1 = n ∧ n ≤ 255 := by
  unfold oneR
  by_cases h : r.2 = true ∨ r.1 = []
  · rw [if_pos h]; exact ⟨0, rfl, by omega⟩
  · rw [if_neg h]; exact ⟨(r.1.headD 0).toNat, rfl, by have := (r.1.headD 0).toNat_lt; omega⟩
theorem one_i64 (r : PS) : I64 (oneR r).1 := by obtain ⟨n, e, h⟩ := one_nat r; rw [e]; exact ⟨by omega, by omega⟩
theorem two_nat (r : PS) : ∃ n : Nat, (twoR r).1 = n ∧ n ≤ 65535 := by
  obtain ⟨a, ea, ha⟩ := one_nat r
  obtain ⟨c, ec, hc⟩ := one_nat (oneR r).2
  exact ⟨a + 256 * c, by unfold twoR; rw [ea, ec]; simp, by omega⟩
theorem two_i64 (r : PS) : I64 (twoR r).1 := by obtain ⟨n, e, h⟩ := two_nat r; rw [e]; exact ⟨by omega, by omega⟩
set_option maxRecDepth 100000 in
set_option maxHeartbeats 4000000 in
theorem two_anyR {w : World} {b : Nat} {S : ByteArray} {r : PS} (h : TkAt b S r w) :
    Calls Try.prog 36 #[.pointer (some ⟨b, 0, none⟩)] w (IsOne b S (twoR r) w) := by
  obtain ⟨a, ha, ha5⟩ := one_nat r
  obtain ⟨c, hc, hc5⟩ := one_nat (oneR r).2
  have HS := Lib.hid (show twoR r = ((a : Int) + 256 * (c : Int), (oneR (oneR r).2).2) by unfold twoR; rw [ha, hc])
  have H1 := Lib.hid ((one_any h).mono (R' := fun e w' => e = .returned (.int .i64 (a : Int)) ∧ TkAt b S (oneR r).2 w' ∧ Kept (But b) w w') (fun e w' ⟨h1, h2, h3⟩ => ⟨by rw [h1, ha], h2, h3⟩))
  have H2 := Lib.hid (fun (W : World) (h : TkAt b S (oneR r).2 W) => (one_any h).mono (R' := fun e w' => e = .returned (.int .i64 (c : Int)) ∧ TkAt b S (oneR (oneR r).2).2 w' ∧ Kept (But b) W w') (fun e w' ⟨h1, h2, h3⟩ => ⟨by rw [h1, hc], h2, h3⟩))
  have HW1 : wrap64 (256 * (c : Int)) = 256 * (c : Int) := IntWalk.wrap64_in _ (by omega)
  have HW2 : wrap64 ((a : Int) + 256 * (c : Int)) = (a : Int) + 256 * (c : Int) := IntWalk.wrap64_in _ (by omega)
  clear h ha hc
  go_enter Try.func36, Try.ntmps36
  go_wp2_with (first | (go_at_call 35; ((with_reducible refine (H1.out).mono ?_); rintro e w1 ⟨rfl, h1⟩; have hk1 := Lib.hid h1.2; have hr1 := Lib.hid h1.1; clear h1 H1)) | (go_at_call 35; go_must ((with_reducible refine (H2.out _ hr1.out).mono ?_); rintro e w2 ⟨rfl, h2⟩; skip)))
  go_ret
  rw [HS.out]
  exact ⟨rfl, h2.1, kept_trans hk1.out h2.2⟩
/-- a mark's steps, so far: in a box of its own -/
structure TInv (w0 : World) (N b q : Nat) (S : ByteArray) (l : List Stp) (r : PS) (W : World) : Prop where
  rd : TkAt b S r W
  ck : W.cell? ⟨q, 1, none⟩ = some (.int .i64 0)
  fz : W.frozen? ⟨q, 0, none⟩ = false ∧ W.frozen? ⟨q, 1, none⟩ = false
  ow : ∃ u, W.cell? ⟨q, 0, none⟩ = some u ∧ OSl RStp 2 96 (q + 1) (fun _ => True) W u l
  kp : Kept (fun k => k < N ∧ k ≠ b) w0 W
  lt : b < q ∧ N ≤ q
theorem tinv_kept {w0 W W' : World} {N b q : Nat} {S : ByteArray} {l : List Stp} {r r' : PS} (h : TInv w0 N b q S l r W) (hk : Kept (But b) W W') (hr : TkAt b S r' W') : TInv w0 N b q S l r' W' := by
  have hq := World.block_lt_of_cell? _ _ h.ck
  obtain ⟨lt1, lt3⟩ := h.lt
  have hqb : q ≠ b := by omega
  obtain ⟨u, h1, h2⟩ := h.ow
  exact ⟨hr, (hk.cell hqb hq 1).trans h.ck, ⟨(hk.frz hqb hq 0).trans h.fz.1, (hk.frz hqb hq 1).trans h.fz.2⟩, ⟨u, (hk.cell hqb hq 0).trans h1, osl_keptS h2 hk (by omega)⟩, kept_trans h.kp (hk.less fun k hk => hk.2), h.lt⟩
theorem tinv_ext {w0 W W' : World} {N b q : Nat} {S : ByteArray} {l : List Stp} {r : PS} (h : TInv w0 N b q S l r W) (hx : Ext W W') : TInv w0 N b q S l r W' := tinv_kept h (kept_ext hx) (tkAt_ext h.rd hx)
theorem tinv_store {w0 w3 w4 w5 : World} {N b q : Nat} {S : ByteArray} {l l' : List Stp} {r : PS} {v : Value} {x : Option Addr} {n c : Nat} (h : TInv w0 N b q S l r w3)
    (h3 : OSl RStp 2 96 (q + 1) (fun _ => True) w3 v l) (hg : w4.grownBy w5 v.ownBlock) (hx : Ext w3 w4)
    (ho : OSl RStp 2 96 (q + 1) (fun _ => True) w5 (.slice x n c) l') : TInv w0 N b q S l' r (w5.setCell ⟨q, 0, none⟩ (.slice x n c)) := by
  obtain ⟨lt1, lt3⟩ := h.lt
  have hqw := World.block_lt_of_cell? _ _ h.ck
  obtain ⟨hgk, hset, hkl, ho'⟩ := own_kept (of := 0) h3 ho hg hx
  obtain ⟨u, hu, _⟩ := h.ow
  have hqq : q ≤ q := Nat.le_refl q
  have hz := (hgk.cell hqq hqw 0).trans hu
  refine ⟨tkAt_kept h.rd hkl (show b < q from lt1), ?_, ⟨?_, ?_⟩, ⟨_, World.cell?_setCell_same _ _ _ hz, ?_⟩, ?_, h.lt⟩
  · rw [World.cell?_setCell_other (h := by intro e; injection e with _ e; cases e)]; exact (hgk.cell hqq hqw 1).trans h.ck
  · rw [World.frozen?_setCell]; exact (hgk.frz hqq hqw 0).trans h.fz.1
  · rw [World.frozen?_setCell]; exact (hgk.frz hqq hqw 1).trans h.fz.2
  · exact osl_lkeep lf_stp ho fun j hj => hset j (fun e => by have := ho' j hj; omega)
  · exact kept_trans h.kp (hkl.less fun j hj => Nat.lt_of_lt_of_le hj.1 lt3)
def IsMkT (b : Nat) (S : ByteArray) (x : Mk × PS) (w : World) (e : Ending) (w' : World) : Prop := ∃ v, e = .returned (.agg #[v, .int .i64 x.1.2]) ∧ RMk (fun k => w.heap.size ≤ k) w' [v, .int .i64 x.1.2] x.1 ∧ TkAt b S x.2 w' ∧ Kept (But b) w w'
end Go.Proofs.Ytiladkinndgeaaa
