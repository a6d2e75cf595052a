/- Both texts, walked. -/
import Derived.Test.YthkhkbjkbpgaoaaD9
set_option linter.unusedVariables false
set_option linter.unusedSimpArgs false
namespace Go.Proofs.Ythkhkbjkbpgaoaa
open Go Go.RowKit Go.BigFrame Cp

/-- what stands in memory while both texts are walked -/
structure WInv (w0 W : World) (D O C base G : Nat) (s u : ByteArray) (g : Nat → Nat) (out come : List Edt) (vo vc : Value) : Prop where
  ext : Ext w0 W
  d3 : D3 W D s u G s.size
  tab : Tab W G s.size u.size g (lcsT s u)
  co : W.cell? ⟨O, 0, none⟩ = some vo
  fo : W.frozen? ⟨O, 0, none⟩ = false
  oo : OSl REd 4 32 base (fun _ => True) W vo out
  cc : W.cell? ⟨C, 0, none⟩ = some vc
  fc : W.frozen? ⟨C, 0, none⟩ = false
  oc : OSl REd 4 32 base (fun _ => True) W vc come
  sep : ∀ b, vo.ownBlock = some b → vc.ownBlock ≠ some b
  bs : base ≤ W.heap.size
/-- where all of it lies -/
structure WPos (w0 : World) (D O C base G n : Nat) (g : Nat → Nat) : Prop where
  o0 : w0.heap.size ≤ O
  c0 : w0.heap.size ≤ C
  oc : O ≠ C
  ob : O < base
  cb : C < base
  db : D < base
  gb : G < base
  rb : ∀ i, i ≤ n → g i < base
  od : O ≠ D
  cd : C ≠ D
  og : O ≠ G
  cg : C ≠ G
  orow : ∀ i, i ≤ n → O ≠ g i
  crow : ∀ i, i ≤ n → C ≠ g i

theorem WInv.same {w0 W W' : World} {D O C base G : Nat} {s u : ByteArray} {g : Nat → Nat} {out come : List Edt} {vo vc : Value} (h : WInv w0 W D O C base G s u g out come vo vc) (hx : Ext W W') (p : WPos w0 D O C base G s.size g) : WInv w0 W' D O C base G s u g out come vo vc := by
  have hO : O < W.heap.size := Nat.lt_of_lt_of_le p.ob h.bs
  have hC : C < W.heap.size := Nat.lt_of_lt_of_le p.cb h.bs
  exact ⟨ext_trans h.ext hx, d3_ext h.d3 hx, h.tab.ext hx, (hx.cells O 0 hO).trans h.co, (hx.frz O 0 hO).trans h.fo, osl_ext gEd h.oo hx, (hx.cells C 0 hC).trans h.cc, (hx.frz C 0 hC).trans h.fc, osl_ext gEd h.oc hx, h.sep, Nat.le_trans h.bs hx.size⟩
theorem own_base {base : Nat} {W : World} {v : Value} {l : List Edt} (h : OSl REd 4 32 base (fun _ => True) W v l) {b : Nat} (hb : b < base) : some b ≠ v.ownBlock := fun e => by have := (osl_lt h b e.symm).1; omega

/-- one sign goes -/
def IsTook (w0 : World) (D O C base G : Nat) (s u : ByteArray) (g : Nat → Nat) (out come : List Edt) (vc : Value) (e : Ending) (W' : World) : Prop := e = .returned (.tuple #[]) ∧ ∃ vo', WInv w0 W' D O C base G s u g out come vo' vc
def IsPut (w0 : World) (D O C base G : Nat) (s u : ByteArray) (g : Nat → Nat) (out come : List Edt) (vo : Value) (e : Ending) (W' : World) : Prop := e = .returned (.tuple #[]) ∧ ∃ vc', WInv w0 W' D O C base G s u g out come vo vc'

theorem wtakes {w0 W : World} {D O C base G : Nat} {s u : ByteArray} {g : Nat → Nat} {out come : List Edt} {vo vc : Value} {k c : Int} (h : WInv w0 W D O C base G s u g out come vo vc) (p : WPos w0 D O C base G s.size g)
    (hk : 0 ≤ k ∧ k ≤ 1000) (hl : out.length ≤ 1000) (hm : ∀ e ∈ out, 0 ≤ e.many ∧ e.many ≤ 1000) :
    Calls Try.prog 99 #[.int .i64 k, .int .u8 c, .pointer (some ⟨O, 0, none⟩)] W (IsTook w0 D O C base G s u g (takeStep out k) come vc) := by
  refine (takes_any h.ext p.o0 p.ob h.bs h.co h.fo h.oo hk hl hm).mono ?_
  rintro e W' ⟨rfl, hx, hkp, vo', h1, h2, h3, h4⟩
  have hb : ∀ b, b < base → b ≠ O → W'.heap[b]? = W.heap[b]? := fun b hb hne => hkp.block b ⟨hne, own_base h.oo hb⟩ (Nat.lt_of_lt_of_le hb h.bs)
  have hbv : ∀ b, vc.ownBlock = some b → W'.heap[b]? = W.heap[b]? := fun b hb => hkp.block b ⟨by have := (osl_lt h.oc b hb).1; have := p.ob; omega, fun e => h.sep b e.symm hb⟩ (osl_lt h.oc b hb).2
  refine ⟨rfl, vo', hx, h.d3.keep hkp.size (hb D p.db p.od.symm), h.tab.keep hkp.size ?_, h1, h2, h3, (World.cell?_of_block (w := W) (a := ⟨C, 0, none⟩) (hb C p.cb p.oc.symm)).trans h.cc, (World.frozen?_of_block (w := W) (a := ⟨C, 0, none⟩) (hb C p.cb p.oc.symm)).trans h.fc, osl_lkeep lf_ed h.oc hbv, ?_, Nat.le_trans h.bs hkp.size⟩
  · rintro b (rfl | ⟨i, hi, rfl⟩)
    · exact hb _ p.gb p.og.symm
    · exact hb _ (p.rb i hi) (p.orow i hi).symm
  · intro b hb1 hb2
    rcases h4 with h4 | ⟨g4, h4, h5⟩
    · exact h.sep b (h4 ▸ hb1) hb2
    · rw [h4] at hb1
      injection hb1 with hb1
      have := (osl_lt h.oc b hb2).2
      omega
theorem wputs {w0 W : World} {D O C base G : Nat} {s u : ByteArray} {g : Nat → Nat} {out come : List Edt} {vo vc : Value} {k : Int} {c : UInt8} (h : WInv w0 W D O C base G s u g out come vo vc) (p : WPos w0 D O C base G s.size g)
    (hk : 0 ≤ k ∧ k ≤ 1000) (hl : come.length ≤ 1000) (hm : ∀ e ∈ come, 0 ≤ e.at_ ∧ e.at_ ≤ 1000 ∧ e.text.length ≤ 60) (hs : signB c = true) :
    Calls Try.prog 100 #[.int .i64 k, .int .u8 (c.toNat : Int), .pointer (some ⟨C, 0, none⟩)] W (IsPut w0 D O C base G s u g out (putStep come k c) vo) := by
  refine (puts_any h.ext p.c0 p.cb h.bs h.cc h.fc h.oc hk hl hm hs).mono ?_
  rintro e W' ⟨rfl, hx, hkp, vc', h1, h2, h3, h4⟩
  have hb : ∀ b, b < base → b ≠ C → W'.heap[b]? = W.heap[b]? := fun b hb hne => hkp.block b ⟨hne, own_base h.oc hb⟩ (Nat.lt_of_lt_of_le hb h.bs)
  have hbv : ∀ b, vo.ownBlock = some b → W'.heap[b]? = W.heap[b]? := fun b hb => hkp.block b ⟨by have := (osl_lt h.oo b hb).1; have := p.cb; omega, fun e => h.sep b hb e.symm⟩ (osl_lt h.oo b hb).2
  refine ⟨rfl, vc', hx, h.d3.keep hkp.size (hb D p.db p.cd.symm), h.tab.keep hkp.size ?_, (World.cell?_of_block (w := W) (a := ⟨O, 0, none⟩) (hb O p.ob p.oc)).trans h.co, (World.frozen?_of_block (w := W) (a := ⟨O, 0, none⟩) (hb O p.ob p.oc)).trans h.fo, osl_lkeep lf_ed h.oo hbv, h1, h2, h3, ?_, Nat.le_trans h.bs hkp.size⟩
  · rintro b (rfl | ⟨i, hi, rfl⟩)
    · exact hb _ p.gb p.cg.symm
    · exact hb _ (p.rb i hi) (p.crow i hi).symm
  · intro b hb1 hb2
    rcases h4 with h4 | ⟨g4, h4, h5⟩
    · exact h.sep b hb1 (h4 ▸ hb2)
    · rw [h4] at hb2
      injection hb2 with hb2
      have := (osl_lt h.oo b hb1).2
      omega

/-- bounds of what is made -/
def OutOk (out : List Edt) (i : Nat) : Prop := out.length ≤ i ∧ ∀ e ∈ out, 0 ≤ e.many ∧ e.many ≤ i
def ComeOk (come : List Edt) (k : Nat) : Prop := come.length ≤ k ∧ ∀ e ∈ come, 0 ≤ e.at_ ∧ e.at_ ≤ 1000 ∧ e.text.length ≤ 60
theorem take_ok {out : List Edt} {i : Nat} {k : Int} (h : OutOk out i) : OutOk (takeStep out k) (i + 1) := by
  obtain ⟨h1, h2⟩ := h
  rcases List.eq_nil_or_concat out with rfl | ⟨q, e, rfl⟩
  · exact ⟨by simp [takeStep], by simp [takeStep]; omega⟩
  · rw [List.concat_eq_append] at *
    have hq : q.length + 1 ≤ i := by simpa using h1
    have he := h2 e (by simp)
    by_cases h0 : e.at_ = k
    · have HT : takeStep (q ++ [e]) k = q ++ [{ e with many := e.many + 1 }] := by simp [takeStep, h0]
      rw [HT]
      refine ⟨by simp; omega, fun x hx => ?_⟩
      rcases List.mem_append.1 hx with hx | hx
      · have := h2 x (by simp [hx]); omega
      · have : x = { e with many := e.many + 1 } := by simpa using hx
        subst this
        simp only
        omega
    · have HT : takeStep (q ++ [e]) k = (q ++ [e]) ++ [⟨2, k, 1, []⟩] := by simp [takeStep, h0]
      rw [HT]
      refine ⟨by simp; omega, fun x hx => ?_⟩
      rcases List.mem_append.1 hx with hx | hx
      · have := h2 x hx; omega
      · have : x = ⟨2, k, 1, []⟩ := by simpa using hx
        subst this
        simp only
        omega
theorem put_ok {come : List Edt} {i : Nat} {k : Int} {c : UInt8} (h : ComeOk come i) (hk : 0 ≤ k ∧ k ≤ 1000) : ComeOk (putStep come k c) (i + 1) := by
  obtain ⟨h1, h2⟩ := h
  have hnew : ComeOk (come ++ [⟨1, k, 0, [c]⟩]) (i + 1) := by
    refine ⟨by simp; omega, fun x hx => ?_⟩
    rcases List.mem_append.1 hx with hx | hx
    · exact h2 x hx
    · have : x = ⟨1, k, 0, [c]⟩ := by simpa using hx
      subst this
      exact ⟨hk.1, hk.2, by simp⟩
  rcases List.eq_nil_or_concat come with rfl | ⟨q, e, rfl⟩
  · exact hnew
  · rw [List.concat_eq_append] at *
    have hq : q.length + 1 ≤ i := by simpa using h1
    have he := h2 e (by simp)
    by_cases h0 : e.at_ + e.text.length = k ∧ e.text.length ≠ 60
    · have HT : putStep (q ++ [e]) k c = q ++ [{ e with text := e.text ++ [c] }] := by simp only [putStep, List.getLast?_append, List.getLast?_singleton, Option.some_or]; rw [if_pos h0]; simp
      rw [HT]
      refine ⟨by simp; omega, fun x hx => ?_⟩
      rcases List.mem_append.1 hx with hx | hx
      · exact h2 x (by simp [hx])
      · have : x = { e with text := e.text ++ [c] } := by simpa using hx
        subst this
        simp only [List.length_append, List.length_cons, List.length_nil]
        omega
    · have HT : putStep (q ++ [e]) k c = (q ++ [e]) ++ [⟨1, k, 0, [c]⟩] := by simp only [putStep, List.getLast?_append, List.getLast?_singleton, Option.some_or]; rw [if_neg h0]
      rw [HT]
      exact hnew

/-- both texts are walked -/
def IsWalked (w0 : World) (D O C base G : Nat) (s u : ByteArray) (g : Nat → Nat) (e : Ending) (W' : World) : Prop :=
  e = .returned (.tuple #[]) ∧ ∃ vo vc, WInv w0 W' D O C base G s u g (walkD s.data.toList u.data.toList 0 0 [] []).1 (walkD s.data.toList u.data.toList 0 0 [] []).2 vo vc ∧ OutOk (walkD s.data.toList u.data.toList 0 0 [] []).1 s.size ∧ ComeOk (walkD s.data.toList u.data.toList 0 0 [] []).2 u.size

theorem walkD_eq {x y : UInt8} {xs ys : Tx} {st k : Int} {out come : List Edt} (h : x = y) : walkD (x :: xs) (y :: ys) st k out come = walkD xs ys (st + 1) (k + 1) out come := by
  rw [walkD, if_pos h]
theorem walkD_take {x y : UInt8} {xs ys : Tx} {st k : Int} {out come : List Edt} (h : ¬ x = y) (hl : lcs (x :: xs) ys ≤ lcs xs (y :: ys)) : walkD (x :: xs) (y :: ys) st k out come = walkD xs (y :: ys) st k (takeStep out st) come := by
  rw [walkD, if_neg h, if_pos hl]
theorem walkD_put {x y : UInt8} {xs ys : Tx} {st k : Int} {out come : List Edt} (h : ¬ x = y) (hl : ¬ lcs (x :: xs) ys ≤ lcs xs (y :: ys)) : walkD (x :: xs) (y :: ys) st k out come = walkD (x :: xs) ys st (k + 1) out (putStep come k y) := by
  rw [walkD, if_neg h, if_neg hl]

set_option maxRecDepth 100000 in
set_option maxHeartbeats 8000000 in
theorem walk_any {w0 w : World} {D O C base G : Nat} {s u : ByteArray} {g : Nat → Nat} {vo vc : Value} (h : WInv w0 w D O C base G s u g [] [] vo vc) (p : WPos w0 D O C base G s.size g) (hs : s.size ≤ 300) (hu : u.size ≤ 300) (su : signsB u.data.toList = true) :
    Calls Try.prog 98 #[.pointer (some ⟨D, 0, none⟩), .func (.func 99) #[] #[.pointer (some ⟨O, 0, none⟩)], .func (.func 100) #[] #[.pointer (some ⟨C, 0, none⟩)]] w (IsWalked w0 D O C base G s u g) := by
  have HI := Lib.hid h
  have HP := Lib.hid p
  have HSU := Lib.hid su
  clear h p su
  go_enter Try.func98, Try.ntmps98
  go_wp2_with fail
  go_loopw [6, 7, 8] (fun st i k wr => ∃ (a b c : Nat) (out come : List Edt) (vo vc : Value), a ≤ s.size ∧ b ≤ u.size ∧ c ≤ a ∧ st = .int .i64 c ∧ i = .int .i64 a ∧ k = .int .i64 b ∧
      Hid (WInv w0 wr D O C base G s u g out come vo vc ∧ OutOk out a ∧ ComeOk come b ∧ walkD s.data.toList u.data.toList 0 0 [] [] = walkD (s.data.toList.drop a) (u.data.toList.drop b) c b out come)) (fun _ i k _ => (s.size - (intOf i).toNat) + (u.size - (intOf k).toNat))
  case atStart => exact ⟨0, 0, 0, [], [], vo, vc, by omega, by omega, by omega, rfl, rfl, rfl, HI.out, ⟨by simp, by simp⟩, ⟨by simp, by simp⟩, rfl⟩
  case round =>
    obtain ⟨a, b, c, out, come, vo, vc, ha, hb, hc, rfl, rfl, rfl, hh⟩ := hrel
    have d0 := hh.out.1.d3.a
    have d1 := hh.out.1.d3.b
    have d2 := hh.out.1.d3.c
    have hww1 : IntKind.i64.wrap ((a : Int) + 1) = (a : Int) + 1 := IntWalk.i64_in _ (by omega)
    have hww2 : IntKind.i64.wrap ((b : Int) + 1) = (b : Int) + 1 := IntWalk.i64_in _ (by omega)
    have HW := Lib.hid (And.intro hww1 hww2)
    clear hww1 hww2
    have HTK := Lib.hid (fun (W : World) (hx : Ext wr W) (x : Int) => wtakes (c := x) (k := c) (hh.out.1.same hx HP.out) HP.out (by omega) (by have := hh.out.2.1.1; omega) (fun e he => by have := hh.out.2.1.2 e he; omega))
    have HPT := Lib.hid (fun (W : World) (hx : Ext wr W) (y : UInt8) (hy : signB y = true) => wputs (c := y) (k := b) (hh.out.1.same hx HP.out) HP.out (by omega) (by have := hh.out.2.2.1.1; omega) hh.out.2.2.1.2 hy)
    by_cases la : a < s.size
    · have ta : decide ((a : Int) < (s.size : Int)) = true := decide_eq_true (by omega)
      have ta' : decide (a < s.size) = true := decide_eq_true (by omega)
      have ea := Lib.hid (show s.data.toList.drop a = s[a] :: s.data.toList.drop (a + 1) from List.drop_eq_getElem_cons (by simpa using la))
      by_cases lb : b < u.size
      · have tb : decide ((b : Int) < (u.size : Int)) = true := decide_eq_true (by omega)
        have tb' : decide (b < u.size) = true := decide_eq_true (by omega)
        have tbe : ((b : Int) == (u.size : Int)) = false := by rw [beq_eq_false_iff_ne]; omega
        have tbe' : (b == u.size) = false := by rw [beq_eq_false_iff_ne]; omega
        have eb := Lib.hid (show u.data.toList.drop b = u[b] :: u.data.toList.drop (b + 1) from List.drop_eq_getElem_cons (by simpa using lb))
        have hsb : signB u[b] = true := List.all_eq_true.1 HSU.out u[b] (List.getElem_mem (by simpa using lb))
        have HSB := Lib.hid hsb
        clear hsb
        have r0 := hh.out.1.tab.row a (by omega)
        have r1 := hh.out.1.tab.row (a + 1) (by omega)
        have nA := (hh.out.1.tab.num (a + 1) b (by omega) (by omega)).1
        have nB := (hh.out.1.tab.num a (b + 1) (by omega) (by omega)).1
        by_cases g2 : s[a] = u[b]
        · have t2 : ((s[a].toNat : Int) == (u[b].toNat : Int)) = true := by rw [g2]; simp
          have HE := Lib.hid (walkD_eq (xs := s.data.toList.drop (a + 1)) (ys := u.data.toList.drop (b + 1)) (st := c) (k := b) (out := out) (come := come) g2)
          clear g2
          go_wp2_with fail
          go_quiet (fail)
          go_wp2_with fail
          go_roundw
          case rel => exact ⟨a + 1, b + 1, c + 1, out, come, vo, vc, by omega, by omega, by omega, by go_num, by go_num, by go_num, hh.out.1.same (ext_drewN (ext_refl _) _) HP.out, ⟨by have := hh.out.2.1.1; omega, fun e he => by have := hh.out.2.1.2 e he; omega⟩, ⟨by have := hh.out.2.2.1.1; omega, hh.out.2.2.1.2⟩, by rw [hh.out.2.2.2, ea.out, eb.out, HE.out]; rfl⟩
          case measure => simp [intOf]; omega
        · have t2 : ((s[a].toNat : Int) == (u[b].toNat : Int)) = false := by
            rw [beq_eq_false_iff_ne]; intro h; apply g2; apply UInt8.toNat_inj.1; omega
          have HLA := Lib.hid (show lcsT s u (a + 1) b = (lcs (s.data.toList.drop (a + 1)) (u[b] :: u.data.toList.drop (b + 1)) : Nat) by unfold lcsT; rw [eb.out])
          have HLB := Lib.hid (show lcsT s u a (b + 1) = (lcs (s[a] :: s.data.toList.drop (a + 1)) (u.data.toList.drop (b + 1)) : Nat) by unfold lcsT; rw [ea.out])
          generalize lcsT s u (a + 1) b = vA at *
          generalize lcsT s u a (b + 1) = vB at *
          by_cases g3 : vB ≤ vA
          · have t3 : decide (vB ≤ vA) = true := decide_eq_true g3
            have HE := Lib.hid (walkD_take (xs := s.data.toList.drop (a + 1)) (ys := u.data.toList.drop (b + 1)) (st := c) (k := b) (out := out) (come := come) g2 (by have h1 := HLA.out; have h2 := HLB.out; omega))
            clear g2
            go_wp2_with fail
            go_quiet (fail)
            go_wp2_with fail
            have hww := HW.out
            obtain ⟨hww1, hww2⟩ := hww
            go_quiet (fail)
            clear hww1 hww2
            go_wp2_with (go_at_call 99; go_must ((with_reducible refine (HTK.out _ (by repeat (first | (with_reducible exact ext_refl _) | (with_reducible assumption) | (with_reducible refine ext_drew ?_) | (with_reducible refine ext_drewN ?_ _) | (with_reducible refine ext_alloc ?_ _) | (with_reducible refine ext_set ?_ (by first | omega | (simp <;> omega)) _) | (with_reducible refine ext_trans ?_ (by with_reducible assumption)))) _).mono ?_); rintro e w1 ⟨rfl, vo1, hw1⟩; have HW1 := Lib.hid hw1; clear hw1))
            go_roundw
            case rel => exact ⟨a + 1, b, c, _, come, vo1, vc, by omega, hb, by omega, rfl, by go_num, rfl, HW1.out, take_ok hh.out.2.1, hh.out.2.2.1, by rw [hh.out.2.2.2, ea.out, eb.out, HE.out]⟩
            case measure => simp [intOf]; omega
          · have t3 : decide (vB ≤ vA) = false := decide_eq_false g3
            have HE := Lib.hid (walkD_put (xs := s.data.toList.drop (a + 1)) (ys := u.data.toList.drop (b + 1)) (st := c) (k := b) (out := out) (come := come) g2 (by have h1 := HLA.out; have h2 := HLB.out; omega))
            clear g2
            go_wp2_with fail
            go_quiet (fail)
            go_wp2_with fail
            have hww := HW.out
            obtain ⟨hww1, hww2⟩ := hww
            go_quiet (fail)
            clear hww1 hww2
            go_wp2_with (go_at_call 100; go_must ((with_reducible refine (HPT.out _ (by repeat (first | (with_reducible exact ext_refl _) | (with_reducible assumption) | (with_reducible refine ext_drew ?_) | (with_reducible refine ext_drewN ?_ _) | (with_reducible refine ext_alloc ?_ _) | (with_reducible refine ext_set ?_ (by first | omega | (simp <;> omega)) _) | (with_reducible refine ext_trans ?_ (by with_reducible assumption)))) _ HSB.out).mono ?_); rintro e w1 ⟨rfl, vc1, hw1⟩; have HW1 := Lib.hid hw1; clear hw1))
            go_roundw
            case rel => exact ⟨a, b + 1, c, out, _, vo, vc1, ha, by omega, hc, rfl, rfl, by go_num, HW1.out, hh.out.2.1, put_ok hh.out.2.2.1 (by omega), by rw [hh.out.2.2.2, ea.out, eb.out, HE.out]; rfl⟩
            case measure => simp [intOf]; omega
      · obtain rfl : b = u.size := by omega
        have tb : decide ((u.size : Int) < (u.size : Int)) = false := decide_eq_false (by omega)
        have eb := Lib.hid (show u.data.toList.drop u.size = [] from List.drop_eq_nil_of_le (by simp))
        go_wp2_with fail
        go_quiet (fail)
        go_wp2_with fail
        go_quiet (fail)
        go_wp2_with (go_at_call 99; go_must ((with_reducible refine (HTK.out _ (by repeat (first | (with_reducible exact ext_refl _) | (with_reducible assumption) | (with_reducible refine ext_drew ?_) | (with_reducible refine ext_drewN ?_ _) | (with_reducible refine ext_alloc ?_ _) | (with_reducible refine ext_set ?_ (by first | omega | (simp <;> omega)) _) | (with_reducible refine ext_trans ?_ (by with_reducible assumption)))) _).mono ?_); rintro e w1 ⟨rfl, vo1, hw1⟩; have HW1 := Lib.hid hw1; clear hw1))
        go_roundw
        case rel => exact ⟨a + 1, u.size, c, _, come, vo1, vc, by omega, hb, by omega, rfl, by go_num, rfl, HW1.out, take_ok hh.out.2.1, hh.out.2.2.1, by rw [hh.out.2.2.2, ea.out, eb.out, walkD]⟩
        case measure => simp [intOf]; omega
    · obtain rfl : a = s.size := by omega
      have ta : decide ((s.size : Int) < (s.size : Int)) = false := decide_eq_false (by omega)
      have ea := Lib.hid (show s.data.toList.drop s.size = [] from List.drop_eq_nil_of_le (by simp))
      by_cases lb : b < u.size
      · have tb : decide ((b : Int) < (u.size : Int)) = true := decide_eq_true (by omega)
        have tb' : decide (b < u.size) = true := decide_eq_true (by omega)
        have tbe : ((b : Int) == (u.size : Int)) = false := by rw [beq_eq_false_iff_ne]; omega
        have tbe' : (b == u.size) = false := by rw [beq_eq_false_iff_ne]; omega
        have eb := Lib.hid (show u.data.toList.drop b = u[b] :: u.data.toList.drop (b + 1) from List.drop_eq_getElem_cons (by simpa using lb))
        have hsb : signB u[b] = true := List.all_eq_true.1 HSU.out u[b] (List.getElem_mem (by simpa using lb))
        have HSB := Lib.hid hsb
        clear hsb
        go_wp2_with fail
        go_quiet (fail)
        go_wp2_with fail
        go_quiet (fail)
        go_wp2_with (go_at_call 100; go_must ((with_reducible refine (HPT.out _ (by repeat (first | (with_reducible exact ext_refl _) | (with_reducible assumption) | (with_reducible refine ext_drew ?_) | (with_reducible refine ext_drewN ?_ _) | (with_reducible refine ext_alloc ?_ _) | (with_reducible refine ext_set ?_ (by first | omega | (simp <;> omega)) _) | (with_reducible refine ext_trans ?_ (by with_reducible assumption)))) _ HSB.out).mono ?_); rintro e w1 ⟨rfl, vc1, hw1⟩; have HW1 := Lib.hid hw1; clear hw1))
        go_roundw
        case rel => exact ⟨s.size, b + 1, c, out, _, vo, vc1, ha, by omega, hc, rfl, rfl, by go_num, HW1.out, hh.out.2.1, put_ok hh.out.2.2.1 (by omega), by rw [hh.out.2.2.2, ea.out, eb.out, walkD]; rfl⟩
        case measure => simp [intOf]; omega
      · obtain rfl : b = u.size := by omega
        have eb := Lib.hid (show u.data.toList.drop u.size = [] from List.drop_eq_nil_of_le (by simp))
        have hfin : walkD s.data.toList u.data.toList 0 0 [] [] = (out, come) := by rw [hh.out.2.2.2, ea.out, eb.out, walkD]
        have HF := Lib.hid hfin
        clear hfin
        go_wp2_with fail
        go_end0
        refine ⟨rfl, vo, vc, ?_⟩
        rw [HF.out]
        exact ⟨hh.out.1, hh.out.2.1, hh.out.2.2.1⟩
end Go.Proofs.Ythkhkbjkbpgaoaa
