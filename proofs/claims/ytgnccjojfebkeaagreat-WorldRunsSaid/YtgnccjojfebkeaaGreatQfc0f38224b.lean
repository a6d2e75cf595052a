/- A note; what must be in any case of what was seen. -/
import Derived.Test.YtgnccjojfebkeaaGreatQ24d212c46b
import Derived.Test.YtgnccjojfebkeaaGreatQa70fadfe36
import Derived.Deep.OwnRows
set_option linter.unusedVariables false
set_option linter.unusedSimpArgs false
set_option maxRecDepth 100000
set_option maxHeartbeats 4000000
namespace Go.Proofs.YtgnccjojfebkeaaGreat
open Go Go.RowKit Go.BigFrame Cp
def Q0u (n:No) (w:World) (e:Ending) (w':World):Prop:=∃v u,e= .returned (.agg #[.int .i64 n.site,.int .i64 n.number,v,u])∧RNo (fun k=>w.heap.size≤k) w' [.int .i64 n.site,.int .i64 n.number,v,u] n∧Ext w w'
theorem Vb7 (w:World):Calls Tryz.prog 138 #[.string ⟨#[104,105]⟩] w (Q7y ⟨#[104,105]⟩ w):=Q64 ⟨#[104,105]⟩ dC w
theorem Qt6 (W:World):(Instr.makeSlice 43 (.int .i64 5) (.int .i64 5)).run Tryz.prog W= .ok (.slice (some ⟨W.heap.size,0,none⟩) 5 5) (W.alloc (.cells #[.int .i64 0,.int .i64 0,.int .i64 0,.int .i64 0,.int .i64 0] 3)):=
 by
 have h:=run_make_row' (P:=Tryz.prog) 43 3 (.int .i64 0) 8 Tryz.underlying43 Qni rfl .i64 .i64 5 dC dC W;have e:madeCells #[.int .i64 0] 5=#[.int .i64 0,.int .i64 0,.int .i64 0,.int .i64 0,.int .i64 0]:=by
  apply Array.ext'
  rw[toList_madeCells_one];rfl
 rw[e] at h;exact h
theorem Q6n (w:World):Calls Tryz.prog 71 #[] w (Q0u noteN w):=by
 have hmk:=Qt6;go_enter Tryz.func71,Tryz.ntmps71;go_wp2_with fail
 go_region_law (first
  |(go_simp;go_at_call 138;go_must ((with_reducible refine(Vb7 _).mono ?_);rintro e w1 ⟨a1,c1,rfl,hd1,hx1⟩;have HD1:=hH hd1;clear hd1;have hz1:=hx1.size;(try simp at hz1);have hb1:=zL hx1 w.heap.size;obtain⟨r0,r1,r2,r3⟩:=cC4 hx1 (w.heap.size) (.int .i64 0) (.int .i64 0) (.slice none 0 0) (.slice none 0 0);have rf0:=fL hx1 (w.heap.size) (0);have rf1:=fL hx1 (w.heap.size) (1);have rf2:=fL hx1 (w.heap.size) (2);have rf3:=fL hx1 (w.heap.size) (3);(try(refine Qev ((hx1.cells (w.heap.size+1) 0 ?_).trans (?_:_=some (.int .i64 0))) (fun cr0=> ?_);(· simp);(· go_simp)));(try(refine Qev ((hx1.cells (w.heap.size+1) 1 ?_).trans (?_:_=some (.int .i64 0))) (fun cr1=> ?_);(· simp);(· go_simp)));(try(refine Qev ((hx1.cells (w.heap.size+1) 2 ?_).trans (?_:_=some (.int .i64 0))) (fun cr2=> ?_);(· simp);(· go_simp)));(try(refine Qev ((hx1.cells (w.heap.size+1) 3 ?_).trans (?_:_=some (.int .i64 0))) (fun cr3=> ?_);(· simp);(· go_simp)));(try(refine Qev ((hx1.cells (w.heap.size+1) 4 ?_).trans (?_:_=some (.int .i64 0))) (fun cr4=> ?_);(· simp);(· go_simp))))))
 all_goals go_wp2_with fail
 ·have hb2:w.heap.size+1<w1.heap.size:=oM;have hn1:¬w.heap.size+1=w1.heap.size:=oM
  (refine bodyPost_end (v:= .agg #[.int .i64 0,.int .i64 1,.slice (some ⟨w.heap.size+1,0,none⟩) 5 5,.slice (some ⟨w1.heap.size,0,none⟩) 1 1]) (by simp[results,Tryz.results71,go_sem,r0,r1,r2,r3,rf0,rf1,rf2,rf3,hb1]) rfl ⟨_,_,rfl,Q3v (s:=0) (k:=1) (l:=[0,0,0,0,0]) (q:=[Vb6 [104,105]]) (Qal sI sI) (Qal sI sI) (Qvz gS gS gS gS gS ltA ltA (Nat.le_refl _) mO (by intro x hx;simp at hx;subst hx;exact(Qal sI sI))) (Qlh rfl (Qay gS (Qay gS (Qay gS (Qay gS (Qay gS (Qay gS (Qay gS Qj7))))))) (gDe.more (fun k hk _=>(show w.heap.size≤k by first|omega|(simp at hk;omega))) (gDe.keep (by repeat(first|(with_reducible exact Qag)|(with_reducible refine Qbh ?_)|(with_reducible refine Qa1 ?_ _)|(with_reducible refine Qae ?_ ltA _))) HD1.o)) ltA ltA (Nat.le_refl _) mO),Qac⟩)
 ·(refine bodyPost_end (v:= .agg #[.int .i64 0,.int .i64 1,.slice (some ⟨w1.heap.size,0,none⟩) 5 5,.slice (some ⟨w1.heap.size+1,0,none⟩) 1 1]) (by simp[results,Tryz.results71,go_sem,r0,r1,r2,r3,rf0,rf1,rf2,rf3,hb1]) rfl ⟨_,_,rfl,Q3v (s:=0) (k:=1) (l:=[0,0,0,0,0]) (q:=[Vb6 [104,105]]) (Qal sI sI) (Qal sI sI) (Qvz gS gS gS gS gS ltA ltA (Nat.le_refl _) mO (by intro x hx;simp at hx;subst hx;exact(Qal sI sI))) (Qlh rfl (Qay gS (Qay gS (Qay gS (Qay gS (Qay gS (Qay gS (Qay gS Qj7))))))) (gDe.more (fun k hk _=>(show w.heap.size≤k by first|omega|(simp at hk;omega))) (gDe.keep (by repeat(first|(with_reducible exact Qag)|(with_reducible refine Qbh ?_)|(with_reducible refine Qa1 ?_ _)|(with_reducible refine Qae ?_ ltA _))) HD1.o)) ltA ltA (Nat.le_refl _) mO),Qac⟩)
 ·(refine bodyPost_end (v:= .agg #[.int .i64 0,.int .i64 1,.slice (some ⟨w1.heap.size+1,0,none⟩) 5 5,.slice (some ⟨w1.heap.size,0,none⟩) 1 1]) (by simp[results,Tryz.results71,go_sem,r0,r1,r2,r3,rf0,rf1,rf2,rf3,hb1]) rfl ⟨_,_,rfl,Q3v (s:=0) (k:=1) (l:=[0,0,0,0,0]) (q:=[Vb6 [104,105]]) (Qal sI sI) (Qal sI sI) (Qvz gS gS gS gS gS ltA ltA (Nat.le_refl _) mO (by intro x hx;simp at hx;subst hx;exact(Qal sI sI))) (Qlh rfl (Qay gS (Qay gS (Qay gS (Qay gS (Qay gS (Qay gS (Qay gS Qj7))))))) (gDe.more (fun k hk _=>(show w.heap.size≤k by first|omega|(simp at hk;omega))) (gDe.keep (by repeat(first|(with_reducible exact Qag)|(with_reducible refine Qbh ?_)|(with_reducible refine Qa1 ?_ _)|(with_reducible refine Qae ?_ ltA _))) HD1.o)) ltA ltA (Nat.le_refl _) mO),Qac⟩)
section
variable {F G:Nat→Prop} {w:World} {v u:Value}
end
end Go.Proofs.YtgnccjojfebkeaaGreat
