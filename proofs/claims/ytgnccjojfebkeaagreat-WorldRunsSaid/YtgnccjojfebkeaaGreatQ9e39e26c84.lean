/- A table of numbers in memory: a row of rows, each in a block of its own. No function of the program in sight. -/
import Derived.Test.YtgnccjojfebkeaaGreatQ463d8804a1
import Derived.Laws.MakeOwn
set_option linter.unusedVariables false
set_option linter.unusedSimpArgs false
set_option maxRecDepth 100000
namespace Cp
open Go Go.RowKit
structure Half (w:World) (G n m k:Nat) (g:Nat→Nat):Prop where
 row:∀i,i<k→w.cell? ⟨G,i,none⟩=some (.slice (some ⟨g i,0,none⟩) (m+1) (m+1))
 nils:∀i,k≤i→i≤n→w.cell? ⟨G,i,none⟩=some (.slice none 0 0)
 fro:∀i,i≤n→w.frozen? ⟨G,i,none⟩=false
 num:∀i j,i<k→j≤m→w.cell? ⟨g i,j,none⟩=some (.int .i64 0)∧w.frozen? ⟨g i,j,none⟩=false
 inj:∀i j,i<k→j<k→g i=g j→i=j
 off:∀i,i<k→G<g i∧g i<w.heap.size
 lt:G<w.heap.size
structure Tab (w:World) (G n m:Nat) (g:Nat→Nat) (f:Nat→Nat→Int):Prop where
 row:∀i,i≤n→w.cell? ⟨G,i,none⟩=some (.slice (some ⟨g i,0,none⟩) (m+1) (m+1))
 num:∀i j,i≤n→j≤m→w.cell? ⟨g i,j,none⟩=some (.int .i64 (f i j))∧w.frozen? ⟨g i,j,none⟩=false
 inj:∀i j,i≤n→j≤n→g i=g j→i=j
 off:∀i,i≤n→G<g i∧g i<w.heap.size
 lt:G<w.heap.size
theorem Qt5 (w:World) (z:Value) (n e i:Nat) (h:i<n):(w.alloc (.cells (madeCells #[z] n) e)).cell? ⟨w.heap.size,i,none⟩=some z:=by
 rw[cell_of_row _ _ _ _ _ _ (heap_alloc_new w _),madeCells];simp[h,Nat.mod_one]
theorem Qxo (w:World) (c:Array Value) (e i:Nat):(w.alloc (.cells c e)).frozen? ⟨w.heap.size,i,none⟩=false:=World.frozen?_alloc_new w c e i
theorem Qy7 {w w1:World} {n m e:Nat} (h:w1=w.alloc (.cells (madeCells #[.slice none 0 0] (n+1)) e)):Half w1 w.heap.size n m 0 (fun _=>0):=by
 subst h;exact⟨oM,fun i _ hi=>Qt5 w _ _ e i oM,fun i _=>Qxo w _ e i,oM,oM,oM,sI⟩
theorem Half.keep {w w':World} {G n m k:Nat} {g:Nat→Nat} (h:Half w G n m k g) (hs:w.heap.size≤w'.heap.size) (hb:∀b,G≤b→b<w.heap.size→w'.heap[b]?=w.heap[b]?):Half w' G n m k g:=by
 have hc:∀b o,G≤b→b<w.heap.size→w'.cell? ⟨b,o,none⟩=w.cell? ⟨b,o,none⟩:=fun b o h1 h2=>World.cell?_of_block (hb b h1 h2)
 have hf:∀b o,G≤b→b<w.heap.size→w'.frozen? ⟨b,o,none⟩=w.frozen? ⟨b,o,none⟩:=fun b o h1 h2=>World.frozen?_of_block (hb b h1 h2)
 have hl:=h.lt;refine⟨fun i hi=>(hc _ _ (Nat.le_refl _) hl).trans (h.row i hi),fun i h1 h2=>(hc _ _ (Nat.le_refl _) hl).trans (h.nils i h1 h2),fun i hi=>(hf _ _ (Nat.le_refl _) hl).trans (h.fro i hi),fun i j hi hj=> ?_,h.inj,fun i hi=> ?_,oM⟩
 ·have:=h.off i hi;exact⟨(hc _ _ oM this.2).trans (h.num i j hi hj).1,(hf _ _ oM this.2).trans (h.num i j hi hj).2⟩
 ·have:=h.off i hi;omega
theorem Half.step {w:World} {G n m k e:Nat} {g:Nat→Nat} (h:Half w G n m k g) (hk:k≤n):
  Half ((w.alloc (.cells (madeCells #[.int .i64 0] (m+1)) e)).setCell ⟨G,k,none⟩ (.slice (some ⟨w.heap.size,0,none⟩) (m+1) (m+1))) G n m (k+1) (fun i=>if i=k then w.heap.size else g i):=by
 have h1:Half (w.alloc (.cells (madeCells #[.int .i64 0] (m+1)) e)) G n m k g:=h.keep sI (fun b _ hb=>Below.heap_alloc w _ b hb);have hG:=h.lt;have hne:∀b o,b≠G→∀u,((w.alloc (.cells (madeCells #[.int .i64 0] (m+1)) e)).setCell ⟨G,k,none⟩ u).cell? ⟨b,o,none⟩=(w.alloc (.cells (madeCells #[.int .i64 0] (m+1)) e)).cell? ⟨b,o,none⟩:=
  fun b o hb u=>World.cell?_setCell_other _ _ _ _ (fun e=>hb (by injection e with e;exact e.symm))
 have hne2:∀i,i≠k→∀u,((w.alloc (.cells (madeCells #[.int .i64 0] (m+1)) e)).setCell ⟨G,k,none⟩ u).cell? ⟨G,i,none⟩=(w.alloc (.cells (madeCells #[.int .i64 0] (m+1)) e)).cell? ⟨G,i,none⟩:=
  fun i hi u=>World.cell?_setCell_other _ _ _ _ (fun e=>hi (by injection e with _ e;exact e.symm))
 refine⟨fun i hi=> ?_,fun i hi hi2=> ?_,fun i hi=> ?_,fun i j hi hj=> ?_,fun i j hi hj=> ?_,fun i hi=> ?_,?_⟩
 ·by_cases hik:i=k
  ·subst hik;rw[if_pos rfl];exact World.cell?_setCell_same _ _ _ (h1.nils i (Nat.le_refl _) hk)
  ·rw[if_neg hik,hne2 i hik];exact h1.row i oM
 ·rw[hne2 i oM];exact h1.nils i oM hi2
 ·rw[World.frozen?_setCell];exact h1.fro i hi
 ·rw[World.frozen?_setCell];by_cases hik:i=k
  ·rw[if_pos hik,hne _ _ oM];exact⟨Qt5 w _ _ e j oM,Qxo w _ e j⟩
  ·rw[if_neg hik,hne _ _ (by have:=h.off i oM;omega)];exact h1.num i j oM hj
 ·skip
  by_cases hik:i=k<;>by_cases hjk:j=k
  ·intro _;omega
  ·rw[if_pos hik,if_neg hjk];intro h3;have:=h.off j oM;omega
  ·rw[if_neg hik,if_pos hjk];intro h3;have:=h.off i oM;omega
  ·rw[if_neg hik,if_neg hjk];exact h.inj i j oM oM
 ·skip
  by_cases hik:i=k
  ·rw[if_pos hik];simp[World.setCell];omega
  ·rw[if_neg hik];have:=h.off i oM;simp[World.setCell];omega
 ·simp[World.setCell];omega
theorem Half.tab {w:World} {G n m:Nat} {g:Nat→Nat} (h:Half w G n m (n+1) g):Tab w G n m g (fun _ _=>0):=
 ⟨fun i hi=>h.row i oM,fun i j hi hj=>h.num i j oM hj,fun i j hi hj=>h.inj i j oM oM,fun i hi=>h.off i oM,h.lt⟩
theorem Tab.keep {w w':World} {G n m:Nat} {g:Nat→Nat} {f:Nat→Nat→Int} (h:Tab w G n m g f) (hs:w.heap.size≤w'.heap.size) (hb:∀b,(b=G∨∃i,i≤n∧b=g i)→w'.heap[b]?=w.heap[b]?):Tab w' G n m g f:=
 ⟨fun i hi=>(World.cell?_of_block (w:=w) (hb G (.inl rfl))).trans (h.row i hi),
  fun i j hi hj=>⟨(World.cell?_of_block (w:=w) (hb (g i) (.inr ⟨i,hi,rfl⟩))).trans (h.num i j hi hj).1,(World.frozen?_of_block (w:=w) (hb (g i) (.inr ⟨i,hi,rfl⟩))).trans (h.num i j hi hj).2⟩,
  h.inj,fun i hi=>by have:=h.off i hi;omega,Nat.lt_of_lt_of_le h.lt hs⟩
theorem Tab.ext {w w':World} {G n m:Nat} {g:Nat→Nat} {f:Nat→Nat→Int} (h:Tab w G n m g f) (hx:Ext w w'):Tab w' G n m g f:=
 h.keep hx.size (fun b hb=>by
  refine Below.block hx b ?_;rcases hb with rfl|⟨i,hi,rfl⟩
  ·exact h.lt
  ·exact(h.off i hi).2)
theorem Tab.put {w:World} {G n m:Nat} {g:Nat→Nat} {f f':Nat→Nat→Int} (h:Tab w G n m g f) {r k:Nat} (hr:r≤n) (hk:k≤m) {x:Int} (hf:∀i j,i≤n→j≤m→f' i j=if i=r∧j=k then x else f i j):
  Tab (w.setCell ⟨g r,k,none⟩ (.int .i64 x)) G n m g f':=by
 refine⟨fun i hi=> ?_,fun i j hi hj=> ?_,h.inj,fun i hi=> ?_,?_⟩
 ·rw[World.cell?_setCell_other _ _ _ _ (fun e=>by injection e with e;have:=(h.off r hr).1;omega)];exact h.row i hi
 ·rw[World.frozen?_setCell,hf i j hi hj];by_cases hij:i=r∧j=k
  ·obtain⟨rfl,rfl⟩:=hij;rw[if_pos ⟨rfl,rfl⟩];exact⟨World.cell?_setCell_same _ _ _ (h.num i j hi hj).1,(h.num i j hi hj).2⟩
  ·rw[if_neg hij,World.cell?_setCell_other _ _ _ _ (fun e=>by injection e with e1 e2;exact hij ⟨(h.inj r i hr hi e1).symm,e2.symm⟩)];exact h.num i j hi hj
 ·have:=h.off i hi;simpa [World.setCell] using this
 ·simpa [World.setCell] using h.lt
theorem Tab.same {w:World} {G n m:Nat} {g:Nat→Nat} {f f':Nat→Nat→Int} (h:Tab w G n m g f) (hf:∀i j,i≤n→j≤m→f i j=f' i j):Tab w G n m g f':=
 ⟨h.row,fun i j hi hj=>by rw[←hf i j hi hj];exact h.num i j hi hj,h.inj,h.off,h.lt⟩
end Cp
