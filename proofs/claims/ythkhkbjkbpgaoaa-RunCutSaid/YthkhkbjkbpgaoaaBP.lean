/- Runs of atoms, by the program. -/
import Derived.Test.YthkhkbjkbpgaoaaB6
import Derived.Test.YthkhkbjkbpgaoaaA4
import Derived.Test.YthkhkbjkbpgaoaaLate2
set_option linter.unusedVariables false
set_option linter.unusedSimpArgs false
namespace Go.Proofs.Ythkhkbjkbpgaoaa
open Go Go.RowKit Go.BigFrame Cp

theorem info_run : (Try.prog.info? 67).map (fun i => (i.zero, i.size, i.bytes)) = some (some (.agg #[.slice none 0 0, .int .i64 0, .string ⟨#[]⟩]), 3, 48) := by kernel_rfl
theorem one_rn : ∀ F w cs (y : Rn), RRn F w cs y → ∀ u ∈ cs, u.oneCell' = true := by
  rintro F w cs y ⟨v, s, rfl, h, _, hs⟩ u hu
  obtain ⟨a, n, c, rfl⟩ := h.slice
  obtain ⟨t, rfl, _, _⟩ := tx_bytes hs
  simp at hu
  rcases hu with rfl | rfl | rfl <;> rfl
theorem orun_at {e base : Nat} {F : Nat → Prop} {w : World} {a : Option Addr} {n c : Nat} {q : List Rn} (h : OSl RRn 3 e base F w (.slice a n c) q) {i : Nat} (hi : i < q.length) :
    ∃ g p d s ap cp, a = some ⟨g, 0, none⟩ ∧ base ≤ g ∧ g < w.heap.size ∧ q[i]? = some ((p, d), (s : ByteArray).data.toList) ∧ s.size ≤ 140737488351232 ∧ I64 d ∧ RSl RStp 2 F w (.slice ap p.length cp) p ∧
      w.cell? ⟨g, i * 3, none⟩ = some (.slice ap p.length cp) ∧ w.cell? ⟨g, i * 3 + 1, none⟩ = some (.int .i64 d) ∧ w.cell? ⟨g, i * 3 + 2, none⟩ = some (.string s) ∧ w.frozen? ⟨g, i * 3 + 2, none⟩ = false := by
  obtain ⟨g, x, cs, _, ha, hb, hs, hx, _, hr, ⟨v, u, rfl, h1, h2, h3⟩, hf⟩ := osl_at h hi
  obtain ⟨ap, np, cp, rfl⟩ := h1.slice
  obtain ⟨rfl, _, _⟩ := h1.len
  obtain ⟨⟨p, d⟩, t⟩ := x
  obtain ⟨s, rfl, rfl, h4⟩ := tx_bytes h3
  exact ⟨g, p, d, s, ap, cp, ha, hb, hs, hx, h4, h2, h1.more gStp (fun k hk _ => hk.1), by simpa using hr 0 _ rfl, by simpa [Nat.add_assoc] using hr 1 _ rfl, by simpa [Nat.add_assoc] using hr 2 _ rfl, hf _⟩
theorem runsA_step {l : List At} {k : Nat} {a : At} (h : l[k]? = some a) : runsA (l.take (k + 1)) = runStep (runsA (l.take k)) a := by
  obtain ⟨h1, h2⟩ := List.getElem?_eq_some_iff.1 h
  unfold runsA
  rw [List.take_succ_eq_append_getElem h1, h2, List.foldl_append]; rfl
theorem runStep_nil (a : At) : runStep [] a = [(a.1, [a.2])] := rfl
theorem runStep_join {q : List Rn} {r : Rn} {a : At} (h : q[q.length - 1]? = some r) (hb : joinsB r a = true) : runStep q a = q.set (q.length - 1) (r.1, r.2 ++ [a.2]) := by
  have hl : q.getLast? = some r := by rw [List.getLast?_eq_getElem?]; exact h
  unfold joinsB at hb
  rw [Bool.and_eq_true, decide_eq_true_eq, beq_iff_eq] at hb
  unfold runStep
  rw [hl]
  simp only
  rw [if_pos hb]
  have hne : q ≠ [] := by rintro rfl; simp at h
  obtain ⟨ys, y, rfl⟩ := snoc_of hne
  simp
theorem runStep_new {q : List Rn} {r : Rn} {a : At} (h : q[q.length - 1]? = some r) (hb : joinsB r a = false) : runStep q a = q ++ [(a.1, [a.2])] := by
  have hl : q.getLast? = some r := by rw [List.getLast?_eq_getElem?]; exact h
  unfold runStep
  rw [hl]
  simp only
  rw [if_neg]
  rintro ⟨h1, h2⟩
  unfold joinsB at hb
  rw [decide_eq_true h1, h2] at hb
  simp at hb
/-- runs as they are made -/
def RunsOk (q : List Rn) : Prop := ∀ r ∈ q, checkM r.1 = 0 ∧ r.2.length ≤ 60 ∧ r.2 ≠ []
theorem runsOk_step {q : List Rn} {a : At} (h : RunsOk q) (ha : checkM a.1 = 0) : RunsOk (runStep q a) := by
  have hnew : RunsOk (q ++ [(a.1, [a.2])]) := by
    intro r hr
    rcases List.mem_append.1 hr with hr | hr
    · exact h r hr
    · have : r = (a.1, [a.2]) := by simpa using hr
      subst this; exact ⟨ha, by simp, by simp⟩
  by_cases hq : q = []
  · subst hq; exact hnew
  · have hlt : q.length - 1 < q.length := by have := List.length_pos_iff.2 hq; omega
    have hr := List.getElem?_eq_getElem hlt
    cases hb : joinsB q[q.length - 1] a with
    | true =>
      rw [runStep_join hr hb]
      intro r hr2
      rcases List.mem_or_eq_of_mem_set hr2 with h2 | rfl
      · exact h r h2
      · have h3 := h _ (List.getElem_mem hlt)
        unfold joinsB at hb
        rw [Bool.and_eq_true, decide_eq_true_eq] at hb
        exact ⟨h3.1, by simp; omega, by simp⟩
    | false => rw [runStep_new hr hb]; exact hnew
theorem runStep_len (q : List Rn) (a : At) : (runStep q a).length ≤ q.length + 1 := by
  unfold runStep
  split
  · split
    · first | (simp; omega) | simp
    · simp
  · simp
theorem runsA_len : ∀ (l : List At) (k : Nat), (runsA (l.take k)).length ≤ k
  | l, 0 => by simp [runsA]
  | l, k + 1 => by
    by_cases h : k < l.length
    · rw [runsA_step (List.getElem?_eq_getElem h)]
      have h1 := runsA_len l k
      have h2 := runStep_len (runsA (l.take k)) l[k]
      omega
    · have h1 := runsA_len l k
      rw [List.take_of_length_le (by omega)] at h1 ⊢
      omega
theorem encode_sign {s : UInt8} (h : s.toNat ≤ 126) : Utf8.encode ((s.toNat : Nat) : Int) = ⟨#[s]⟩ := by
  have h1 : Utf8.valid ((s.toNat : Nat) : Int) = true := by unfold Utf8.valid; simp; omega
  unfold Utf8.encode
  simp only [h1, if_true, Int.toNat_natCast]
  rw [if_pos (by omega)]
  simp
theorem put_text {e base : Nat} {F : Nat → Prop} {w : World} {g n c : Nat} {q : List Rn} (h : OSl RRn 3 e base F w (.slice (some ⟨g, 0, none⟩) n c) q) {i : Nat} (hi : i < q.length) {m : Mk} {sx eb : ByteArray} {s : UInt8} (he : q[i]? = some (m, sx.data.toList)) (heb : eb = ⟨#[s]⟩) (hs : sx.size ≤ 60) :
    OSl RRn 3 e base F (w.setCell ⟨g, i * 3 + 2, none⟩ (.string (sx ++ eb))) (.slice (some ⟨g, 0, none⟩) n c) (q.set i (m, sx.data.toList ++ [s])) := by
  refine osl_put gRn h hi (by omega) (fun G W cs y hy hr => ?_)
  rw [he] at hy
  have : (m, sx.data.toList) = y := by simpa using hy
  subst this
  obtain ⟨v, u, rfl, h1, h2, _⟩ := hr
  refine ⟨v, .string (sx ++ eb), rfl, h1, h2, ?_⟩
  subst heb
  have h9 : (⟨#[s]⟩ : ByteArray).size = 1 := rfl
  have h3 := rtx_s (s := sx ++ ⟨#[s]⟩) (by rw [ByteArray.size_append, h9]; omega)
  simpa using h3
theorem wrap_succ {n : Nat} (h : n ≤ 300) : wrap64 ((n : Int) + 1) = (n : Int) + 1 := IntWalk.wrap64_in _ (by omega)
theorem len63 {n : Nat} (h : n ≤ 300) : n + 1 ≤ maxLen := Nat.le_trans (Nat.succ_le_succ h) (by unfold maxLen; decide)
theorem lenby {n : Nat} (h : n ≤ 300) : (n + 1) * 48 ≤ 140737488355328 := by omega
theorem tx_nil {a b : Mk} {t : Tx} (h : (a, ([] : Tx)) = (b, t)) : t = [] := (congrArg Prod.snd h).symm
theorem app_eq0 {p px : List Stp} {d dx : Int} {t : Tx} {s : UInt8} (h : ((p, d), ([] : Tx)) = ((px, dx), t)) : ([((p, d), ([] : Tx))] : List Rn).set 0 ((px, dx), t ++ [s]) = [((p, d), [s])] := by
  injection h with h1 h2
  rw [h1, ← h2]; rfl
theorem app_eq {p px : List Stp} {d dx : Int} {t : Tx} {s : UInt8} {q : List Rn} (h : ((p, d), ([] : Tx)) = ((px, dx), t)) : (q ++ [((p, d), ([] : Tx))]).set q.length ((px, dx), t ++ [s]) = q ++ [((p, d), [s])] := by
  injection h with h1 h2
  rw [h1, ← h2]; simp
theorem set_last {q : List Rn} {y x : Rn} : (q ++ [y]).set q.length x = q ++ [x] := by simp
def IsRunsR (l : List Rn) (w : World) (e : Ending) (w' : World) : Prop := ∃ v, e = .returned v ∧ RSl RRn 3 (fun k => w.heap.size ≤ k) w' v l ∧ Ext w w'
theorem osl_of_eq {e base : Nat} {F : Nat → Prop} {w : World} {v : Value} {q q' : List Rn} (h : OSl RRn 3 e base F w v q) (hq : q = q') : OSl RRn 3 e base F w v q' := hq ▸ h

end Go.Proofs.Ythkhkbjkbpgaoaa
