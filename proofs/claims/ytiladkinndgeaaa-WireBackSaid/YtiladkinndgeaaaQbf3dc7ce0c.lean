/- The document's reader: a deed; a note's box. -/
import Derived.Test.YtiladkinndgeaaaQf60aa2220d
set_option linter.unusedVariables false
set_option linter.unusedSimpArgs false
namespace Go.Proofs.Ytiladkinndgeaaa
open Go Go.RowKit Go.BigFrame Cp

theorem deedT_any {w : World} {b : Nat} {S : ByteArray} {r : PS} (h : TkAt b S r w) : Calls Try.prog 37 #[.pointer (some ⟨b, 0, none⟩)] w (IsDeT b S (deedR r) w) := by
  by_cases h1 : (oneR r).1 = 1
  · by_cases hb : (oneR (markR (oneR r).2).2).2.2 = true ∨ ((oneR (markR (oneR r).2).2).2.1.length : Int) < (oneR (markR (oneR r).2).2).1
    · exact deedT1a_any h rfl h1 rfl rfl hb
    · exact deedT1b_any h rfl h1 rfl rfl hb
  · by_cases h2 : (oneR r).1 = 2
    · exact deedT2_any h rfl h1 h2
    · exact deedT3_any h rfl h1 h2
structure NT (w0 : World) (N b q : Nat) (S : ByteArray) (st nu : Int) (l : List Int) (r : PS) (W : World) : Prop where
  rd : TkAt b S r W
  c0 : W.cell? ⟨q, 0, none⟩ = some (.int .i64 st)
  c1 : W.cell? ⟨q, 1, none⟩ = some (.int .i64 nu)
  c3 : W.cell? ⟨q, 3, none⟩ = some (.slice none 0 0)
  fz : W.frozen? ⟨q, 2, none⟩ = false ∧ W.frozen? ⟨q, 3, none⟩ = false
  ow : ∃ u, W.cell? ⟨q, 2, none⟩ = some u ∧ OSl RInt 1 3 (q + 1) (fun _ => True) W u l
  kp : Kept (fun k => k < N ∧ k ≠ b) w0 W
  lt : b < q ∧ N ≤ q
section
variable {w0 W W' : World} {N b q : Nat} {S : ByteArray} {st nu : Int} {r r' : PS}
theorem nt_kept {l : List Int} (h : NT w0 N b q S st nu l r W) (hk : Kept (But b) W W') (hr : TkAt b S r' W') : NT w0 N b q S st nu l r' W' := by
  have hq := World.block_lt_of_cell? _ _ h.c0
  obtain ⟨lt1, lt3⟩ := h.lt
  have hqb : q ≠ b := by omega
  obtain ⟨u, h1, h2⟩ := h.ow
  exact ⟨hr, (hk.cell hqb hq 0).trans h.c0, (hk.cell hqb hq 1).trans h.c1, (hk.cell hqb hq 3).trans h.c3, ⟨(hk.frz hqb hq 2).trans h.fz.1, (hk.frz hqb hq 3).trans h.fz.2⟩, ⟨u, (hk.cell hqb hq 2).trans h1, osl_keptI h2 hk (by omega)⟩, kept_trans h.kp (hk.less fun k hk => hk.2), h.lt⟩
theorem nt_store {w3 w4 w5 : World} {l l' : List Int} {v : Value} {x : Option Addr} {n c : Nat} (h : NT w0 N b q S st nu l r w3)
    (h3 : OSl RInt 1 3 (q + 1) (fun _ => True) w3 v l) (hg : w4.grownBy w5 v.ownBlock) (hx : Ext w3 w4)
    (ho : OSl RInt 1 3 (q + 1) (fun _ => True) w5 (.slice x n c) l') : NT w0 N b q S st nu l' r (w5.setCell ⟨q, 2, none⟩ (.slice x n c)) := by
  obtain ⟨lt1, lt3⟩ := h.lt
  have hqw := World.block_lt_of_cell? _ _ h.c0
  obtain ⟨hgk, hset, hkl, ho'⟩ := own_kept (of := 2) h3 ho hg hx
  obtain ⟨u, hu, _⟩ := h.ow
  have hqq : q ≤ q := Nat.le_refl q
  have hz := (hgk.cell hqq hqw 2).trans hu
  refine ⟨tkAt_kept h.rd hkl (show b < q from lt1), ?_, ?_, ?_, ⟨?_, ?_⟩, ⟨_, World.cell?_setCell_same _ _ _ hz, ?_⟩, ?_, h.lt⟩
  · rw [World.cell?_setCell_other (h := by intro e; injection e with _ e; cases e)]; exact (hgk.cell hqq hqw 0).trans h.c0
  · rw [World.cell?_setCell_other (h := by intro e; injection e with _ e; cases e)]; exact (hgk.cell hqq hqw 1).trans h.c1
  · rw [World.cell?_setCell_other (h := by intro e; injection e with _ e; cases e)]; exact (hgk.cell hqq hqw 3).trans h.c3
  · rw [World.frozen?_setCell]; exact (hgk.frz hqq hqw 2).trans h.fz.1
  · rw [World.frozen?_setCell]; exact (hgk.frz hqq hqw 3).trans h.fz.2
  · exact osl_lkeep lf_int ho fun j hj => hset j (fun e => by have := ho' j hj; omega)
  · exact kept_trans h.kp (hkl.less fun j hj => Nat.lt_of_lt_of_le hj.1 lt3)
end
structure DT (w0 : World) (N b q : Nat) (S : ByteArray) (st nu : Int) (ns : List Int) (l : List De) (r : PS) (W : World) : Prop where
  rd : TkAt b S r W
  c0 : W.cell? ⟨q, 0, none⟩ = some (.int .i64 st)
  c1 : W.cell? ⟨q, 1, none⟩ = some (.int .i64 nu)
  fz : W.frozen? ⟨q, 3, none⟩ = false
  ow : ∃ v u, W.cell? ⟨q, 2, none⟩ = some v ∧ W.cell? ⟨q, 3, none⟩ = some u ∧ RSl RInt 1 (fun k => q < k ∧ some k ≠ u.ownBlock) W v ns ∧ OSl RDe 7 60 (q + 1) (fun k => q < k) W u l
  kp : Kept (fun k => k < N ∧ k ≠ b) w0 W
  lt : b < q ∧ N ≤ q
section
variable {w0 W W' : World} {N b q : Nat} {S : ByteArray} {st nu : Int} {ns : List Int} {r r' : PS}
theorem dt_kept {l : List De} (h : DT w0 N b q S st nu ns l r W) (hk : Kept (But b) W W') (hr : TkAt b S r' W') : DT w0 N b q S st nu ns l r' W' := by
  have hq := World.block_lt_of_cell? _ _ h.c0
  obtain ⟨lt1, lt3⟩ := h.lt
  have hqb : q ≠ b := by omega
  obtain ⟨v, u, h1, h2, h3, h4⟩ := h.ow
  exact ⟨hr, (hk.cell hqb hq 0).trans h.c0, (hk.cell hqb hq 1).trans h.c1, (hk.frz hqb hq 3).trans h.fz, ⟨v, u, (hk.cell hqb hq 2).trans h1, (hk.cell hqb hq 3).trans h2, kept_rsl h3 hk (by omega), osl_keptD h4 hk (by omega)⟩, kept_trans h.kp (hk.less fun k hk => hk.2), h.lt⟩
theorem dt_ext {l : List De} (h : DT w0 N b q S st nu ns l r W) (hx : Ext W W') : DT w0 N b q S st nu ns l r W' := dt_kept h (kept_ext hx) (tkAt_ext h.rd hx)
theorem dt_of {l : List Int} (h : NT w0 N b q S st nu l r W) : DT w0 N b q S st nu l [] r W := by
  obtain ⟨u, h1, h2⟩ := h.ow
  exact ⟨h.rd, h.c0, h.c1, h.fz.2, ⟨u, _, h1, h.c3, RSl.more gInt (fun k hk _ => ⟨hk, fun e => by simp [Value.ownBlock] at e⟩) (osl_ints h2), osl_nil⟩, h.kp, h.lt⟩
theorem dt_store {w3 w4 w5 : World} {l l' : List De} {vn v : Value} {x : Option Addr} {n c : Nat} (h : DT w0 N b q S st nu ns l r w3)
    (hn : w3.cell? ⟨q, 2, none⟩ = some vn) (hns : RSl RInt 1 (fun k => q < k ∧ some k ≠ v.ownBlock) w3 vn ns)
    (h3 : OSl RDe 7 60 (q + 1) (fun k => q < k) w3 v l) (hg : w4.grownBy w5 v.ownBlock) (hx : Ext w3 w4) (hat : (Value.slice x n c).ownBlock = v.ownBlock ∨ (Value.slice x n c).ownBlock = some w4.heap.size)
    (ho : OSl RDe 7 60 (q + 1) (fun k => q < k) w5 (.slice x n c) l') : DT w0 N b q S st nu ns l' r (w5.setCell ⟨q, 3, none⟩ (.slice x n c)) := by
  obtain ⟨lt1, lt3⟩ := h.lt
  have hqw := World.block_lt_of_cell? _ _ h.c0
  obtain ⟨hgk, hset, hkl, ho'⟩ := own_kept (of := 3) h3 ho hg hx
  obtain ⟨_, u, _, hu, _⟩ := h.ow
  have hqq : q ≤ q := Nat.le_refl q
  have hz := (hgk.cell hqq hqw 3).trans hu
  have hs34 := hx.size
  have hs35 := hgk.size
  have hkn : Keeps (fun k => (q < k ∧ some k ≠ v.ownBlock)) w3 (w5.setCell ⟨q, 3, none⟩ (.slice x n c)) :=
    ⟨by rw [show (w5.setCell ⟨q, 3, none⟩ (.slice x n c)).heap.size = w5.heap.size by simp]; exact hs35, fun k hk hl => (hset k (show k ≠ q from by have := hk.1; omega)).trans ((hg.block k (by omega) (fun e => hk.2 e)).trans (Below.block hx k hl))⟩
  refine ⟨tkAt_kept h.rd hkl (show b < q from lt1), ?_, ?_, ?_, ⟨vn, _, ?_, World.cell?_setCell_same _ _ _ hz, ?_, ?_⟩, ?_, h.lt⟩
  · rw [World.cell?_setCell_other (h := by intro e; injection e with _ e; cases e)]; exact (hgk.cell hqq hqw 0).trans h.c0
  · rw [World.cell?_setCell_other (h := by intro e; injection e with _ e; cases e)]; exact (hgk.cell hqq hqw 1).trans h.c1
  · rw [World.frozen?_setCell]; exact (hgk.frz hqq hqw 3).trans h.fz
  · rw [World.cell?_setCell_other (h := by intro e; injection e with _ e; cases e)]; exact (hgk.cell hqq hqw 2).trans hn
  · have hl3 : RSl RInt 1 (fun k => (q < k ∧ some k ≠ v.ownBlock) ∧ k < w3.heap.size) w3 vn ns := RSl.more gInt (fun k hk hl => ⟨hk, hl⟩) hns
    refine RSl.more gInt (fun k hk _ => ⟨hk.1.1, fun e => ?_⟩) (RSl.keep gInt (hkn.weaken (G := fun k => (q < k ∧ some k ≠ v.ownBlock) ∧ k < w3.heap.size) (fun k _ h => h.1)) hl3)
    rcases hat with h | h
    · exact hk.1.2 (e.trans h)
    · rw [h] at e; injection e with e; have := hk.2; omega
  · refine osl_keep gDe ho ⟨by simp, fun k hk _ => hset k (fun e => ?_)⟩
    rcases hk with hk | hk
    · have h' : q < k := hk
      omega
    · have := ho' k hk.symm; omega
  · exact kept_trans h.kp (hkl.less fun j hj => Nat.lt_of_lt_of_le hj.1 lt3)
end
end Go.Proofs.Ytiladkinndgeaaa
