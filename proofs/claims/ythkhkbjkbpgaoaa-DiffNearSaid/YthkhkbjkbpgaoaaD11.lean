/- The edits between two texts. -/
import Derived.Test.YthkhkbjkbpgaoaaD10
set_option linter.unusedVariables false
set_option linter.unusedSimpArgs false
namespace Go.Proofs.Ythkhkbjkbpgaoaa
open Go Go.RowKit Go.BigFrame Cp

theorem osl_self {e base : Nat} {F : Nat → Prop} {w : World} {v : Value} {l : List Edt} (h : OSl REd 4 e base F w v l) : RSl REd 4 (fun k => v.ownBlock = some k) w v l := by
  obtain ⟨a, n, c, rfl⟩ := osl_slice h
  obtain ⟨rfl, h1, h2⟩ := osl_len h
  refine ⟨a, c, rfl, h1, h2, fun hne => ?_⟩
  obtain ⟨g, x, cs, _, rfl, _, hg, _, _, _, _, _⟩ := osl_at h (i := 0) (List.length_pos_iff.2 hne)
  refine ⟨g, 0, rfl, own_some, hg, fun i x hi => ?_⟩
  obtain ⟨g', y, cs, _, hg', _, _, hy, hcs, hr, hR, _⟩ := osl_at h (i := i) (List.getElem?_eq_some_iff.1 hi).1
  injection hg' with hg'
  injection hg' with hg' _ _
  subst hg'
  rw [hi] at hy
  have : x = y := by simpa using hy
  subst this
  exact ⟨cs, hcs, by rw [Nat.zero_add]; exact hr, hR⟩
/-- edits in new memory -/
def IsNewEds (w0 : World) (l : List Edt) (e : Ending) (w' : World) : Prop := ∃ v, e = .returned v ∧ RSl REd 4 (fun k => w0.heap.size ≤ k) w' v l ∧ Ext w0 w' ∧ l.length ≤ 600 ∧ ∀ e ∈ l, e.text.length ≤ 60

set_option maxRecDepth 100000 in
set_option maxHeartbeats 4000000 in
theorem edits_any {w0 w : World} {D G : Nat} {s u : ByteArray} {g : Nat → Nat} (hw0 : Ext w0 w) (hD3 : D3 w D s u G s.size) (hT : Tab w G s.size u.size g (lcsT s u)) (hDG : D < G) (hs : s.size ≤ 300) (hu : u.size ≤ 300) (su : signsB u.data.toList = true)
    (hout : ∀ e ∈ (walkD s.data.toList u.data.toList 0 0 [] []).1, e.text = []) :
    Calls Try.prog 87 #[.pointer (some ⟨D, 0, none⟩)] w (IsNewEds w0 (rawD s.data.toList u.data.toList)) := by
  obtain ⟨i0, hi0, hz0, hz1, hz2⟩ := info_parts info_edit
  have HI := Lib.hid hi0
  have HZ0 := Lib.hid hz0
  have HZ1 := Lib.hid hz1
  have HZ2 := Lib.hid hz2
  clear hi0 hz0 hz1 hz2
  have hGl := hT.lt
  have hsz0 := hw0.size
  have HP := Lib.hid (show WPos w0 D w.heap.size (w.heap.size + 1) (w.heap.size + 2) G s.size g from
    ⟨hsz0, by omega, by omega, by omega, by omega, by have := hD3.lt; omega, by omega, fun i hi => by have := (hT.off i hi).2; omega, by have := hD3.lt; omega, by have := hD3.lt; omega, by omega, by omega, fun i hi => by have := (hT.off i hi).2; omega, fun i hi => by have := (hT.off i hi).2; omega⟩)
  have HX2 := Lib.hid (show Ext w ((w.alloc (.cells #[.slice none 0 0] 22)).alloc (.cells #[.slice none 0 0] 22)) from ext_alloc (ext_alloc (ext_refl _) _) _)
  have HWI := Lib.hid (show WInv w0 ((w.alloc (.cells #[.slice none 0 0] 22)).alloc (.cells #[.slice none 0 0] 22)) D w.heap.size (w.heap.size + 1) (w.heap.size + 2) G s u g [] [] (.slice none 0 0) (.slice none 0 0) from
    ⟨ext_trans hw0 HX2.out, d3_ext hD3 HX2.out, hT.ext HX2.out, by go_simp, by go_simp, osl_nil, by go_simp, by go_simp, osl_nil, fun b h => by simp [Value.ownBlock] at h, by simp⟩)
  have HWK := Lib.hid (walk_any HWI.out HP.out hs hu su)
  have HRW := Lib.hid (show rawD s.data.toList u.data.toList = (walkD s.data.toList u.data.toList 0 0 [] []).1 ++ (walkD s.data.toList u.data.toList 0 0 [] []).2 from rfl)
  have HOUT := Lib.hid hout
  clear hw0 hD3 hT su hout
  go_enter Try.func87, Try.ntmps87
  go_wp2_with (first
    | (go_at_call 98; go_must ((with_reducible refine (HWK.out).mono ?_); rintro e w1 ⟨rfl, vo, vc, hwi, hok1, hok2⟩; have co := hwi.co; have cc := hwi.cc; obtain ⟨ao, no, po, rfl⟩ := osl_slice hwi.oo; obtain ⟨ac, nc, pc, rfl⟩ := osl_slice hwi.oc; have HWV := Lib.hid hwi; have HK1 := Lib.hid hok1; have HK2 := Lib.hid hok2; clear hwi hok1 hok2))
    | (at_builtin; go_must (refine wpList_appAll gEd rfl (.tmp 9) (.tmp 10) 22 rfl (w.heap.size + 2) 32 i0 _ 4 40 Try.underlying22 HI.out HZ0.out HZ1.out HZ2.out rfl (by omega) (F := fun _ => True) (G := fun k => (Value.slice ac nc pc).ownBlock = some k) (.slice ao no po) _ rfl HWV.out.oo (.slice ac nc pc) _ rfl (osl_self HWV.out.oc) one_ed (fun k hk _ => ⟨trivial, fun e => HWV.out.sep k e.symm hk⟩) (by have h1 := HK1.out.1; have h2 := HK2.out.1; unfold maxLen; omega) (by have h1 := HK1.out.1; have h2 := HK2.out.1; omega) HWV.out.bs ?_; intro v9 w9 hown9 hg9 hat9; obtain ⟨a9, n9, c9, rfl⟩ := osl_slice hown9; have HV9 := Lib.hid hown9; have HG9 := Lib.hid hg9; clear hown9 hg9 hat9)))
  go_ret
  refine ⟨_, rfl, ?_, ext_grown HWV.out.ext HG9.out (fun k hk => by have := (osl_lt HWV.out.oo k hk).1; omega), ?_, ?_⟩
  · rw [HRW.out]
    exact RSl.more gEd (fun k hk _ => by have := (osl_lt HV9.out k hk).1; omega) (osl_self HV9.out)
  · rw [HRW.out, List.length_append]
    have h1 := HK1.out.1
    have h2 := HK2.out.1
    omega
  · rw [HRW.out]
    intro e he
    rcases List.mem_append.1 he with he | he
    · rw [HOUT.out e he]; simp
    · exact (HK2.out.2 e he).2.2

theorem takes_text : ∀ (a b : Tx) (st k : Int) (out come : List Edt), (∀ e ∈ out, e.text = []) → ∀ e ∈ (walkD a b st k out come).1, e.text = [] := by
  have hts : ∀ (out : List Edt) (k : Int), (∀ e ∈ out, e.text = []) → ∀ e ∈ takeStep out k, e.text = [] := by
    intro out k h e he
    rcases List.eq_nil_or_concat out with rfl | ⟨q, x, rfl⟩
    · simp [takeStep] at he; subst he; rfl
    · rw [List.concat_eq_append] at *
      by_cases h0 : x.at_ = k
      · have HT : takeStep (q ++ [x]) k = q ++ [{ x with many := x.many + 1 }] := by simp [takeStep, h0]
        rw [HT] at he
        rcases List.mem_append.1 he with he | he
        · exact h e (by simp [he])
        · have : e = { x with many := x.many + 1 } := by simpa using he
          subst this
          exact h x (by simp)
      · have HT : takeStep (q ++ [x]) k = (q ++ [x]) ++ [⟨2, k, 1, []⟩] := by simp [takeStep, h0]
        rw [HT] at he
        rcases List.mem_append.1 he with he | he
        · exact h e he
        · have : e = ⟨2, k, 1, []⟩ := by simpa using he
          subst this; rfl
  intro a b
  induction h : a.length + b.length using Nat.strongRecOn generalizing a b with
  | _ n ih =>
    intro st k out come ho
    cases a with
    | nil =>
      cases b with
      | nil => rw [walkD]; exact ho
      | cons y ys => rw [walkD]; exact ih _ (by simp at h ⊢; omega) [] ys rfl _ _ _ _ ho
    | cons x xs =>
      cases b with
      | nil => rw [walkD]; exact ih _ (by simp at h ⊢; omega) xs [] rfl _ _ _ _ (hts _ _ ho)
      | cons y ys =>
        rw [walkD]
        split
        · exact ih _ (by simp at h ⊢; omega) xs ys rfl _ _ _ _ ho
        · split
          · exact ih _ (by simp at h ⊢; omega) xs (y :: ys) rfl _ _ _ _ (hts _ _ ho)
          · exact ih _ (by simp at h ⊢; omega) (x :: xs) ys rfl _ _ _ _ ho

set_option maxRecDepth 100000 in
set_option maxHeartbeats 4000000 in
theorem raw_any (s u : ByteArray) (w : World) (hs : s.size ≤ 300) (hu : u.size ≤ 300) (su : signsB u.data.toList = true) :
    Calls Try.prog 54 #[.string s, .string u] w (IsNewEds w (rawD s.data.toList u.data.toList)) := by
  have HSU := Lib.hid su
  clear su
  go_enter Try.func54, Try.ntmps54
  go_wp2_with (first
    | (go_at_call 86; go_must ((with_reducible refine (table_any (w0 := w) (D := w.heap.size) (s := s) (u := u) (v0 := .slice none 0 0) (by repeat (first | (with_reducible exact ext_refl _) | (with_reducible assumption) | (with_reducible refine ext_drew ?_) | (with_reducible refine ext_drewN ?_ _) | (with_reducible refine ext_alloc ?_ _) | (with_reducible refine ext_set ?_ (by first | omega | (simp <;> omega)) _) | (with_reducible refine ext_trans ?_ (by with_reducible assumption)))) (Nat.le_refl _) (by simp) (by go_simp) (by go_simp) (by go_simp) (by go_simp) hs hu).mono ?_); rintro e w1 ⟨rfl, hx1, g, hd3, htab⟩; have HX1 := Lib.hid hx1; have HD := Lib.hid hd3; have HT := Lib.hid htab; clear hx1 hd3 htab))
    | (go_at_call 87; go_must ((with_reducible refine (edits_any HX1.out HD.out HT.out (by simp) hs hu HSU.out (takes_text _ _ _ _ _ _ (by simp))).mono ?_); rintro e w2 ⟨v2, rfl, hv2, hx2, hl2, ht2⟩; obtain ⟨a2, n2, c2, rfl⟩ := hv2.slice; have HV2 := Lib.hid hv2; have HX2 := Lib.hid hx2; have HL2 := Lib.hid hl2; have HT2 := Lib.hid ht2; clear hv2 hx2 hl2 ht2)))
  go_ret
  exact ⟨_, rfl, HV2.out, HX2.out, HL2.out, HT2.out⟩
end Go.Proofs.Ythkhkbjkbpgaoaa
