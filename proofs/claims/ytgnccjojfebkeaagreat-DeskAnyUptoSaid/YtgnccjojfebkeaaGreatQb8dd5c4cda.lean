/- How much comes in, where the bulk is bounded. -/
import Derived.Test.YtgnccjojfebkeaaGreatQ17528aba9c
import Derived.Test.YtgnccjojfebkeaaGreatRows
set_option linter.unusedVariables false
set_option linter.unusedSimpArgs false
set_option maxRecDepth 100000
namespace Go.Proofs.YtgnccjojfebkeaaGreat
open Go Go.RowKit Go.ChangeShapes Go.WideShapes Go.Deep Cp
section
variable {H:Type} {enc:TypeId×Value→H} {w:World} {sp:Nat→Bool} {held:Bool}
theorem Vfb (d:DataW H):1≤Rows.uptoBulk d:=by
 cases d with
 |lit l=>cases l<;>simp[Rows.uptoBulk]
 |nil=>simp[Rows.uptoBulk]
 |ptr d=>simp[Rows.uptoBulk]
 |slice elems spare=>simp[Rows.uptoBulk]
 |agg parts=>simp[Rows.uptoBulk]
 |iface t d=>simp[Rows.uptoBulk]
 |map entries=>simp[Rows.uptoBulk]
 |held h=>simp[Rows.uptoBulk]
theorem Vfa (l:List (DataW H)):l.length≤Rows.uptoBulkAll l:=by
 induction l with
 |nil=>simp[Rows.uptoBulkAll]
 |cons x r ih=>have:=Vfb x;simp only[Rows.uptoBulkAll,List.length_cons];omega
theorem Vew {d:DataW H} {l:List (DataW H)} (h:d∈l):Rows.uptoBulk d≤Rows.uptoBulkAll l:=by
 induction l with
 |nil=>cases h
 |cons x r ih=>
  simp only[Rows.uptoBulkAll];rcases List.mem_cons.1 h with e|e
  ·subst e;omega
  ·have:=ih e;omega
theorem Vfj {α:Type} {R:Rd α} {sz t e:Nat} {F:Nat→Prop} {v:Value} {d:DataW H} {p:List MemPlace} {l:List α} (ht:Tryz.prog.underlying t=some (.slice e)) (h:DataW.Trod enc Tryz.prog w 0 sp held t v d p) (hl:RSl R sz F w v l) {ds:List (DataW H)}
  (hd:d∈ds) (hk:Rows.uptoSmall H ds=true):l.length≤1048576:=by
 have hb:Rows.uptoBulk d≤1048576:=Nat.le_trans (Vew hd) (of_decide_eq_true hk);refine Nat.le_trans ?_ hb;obtain⟨a,c,rfl,_⟩:=hl;obtain⟨fuel,hf⟩:=h;rcases open_slice ht hf with⟨e1,_⟩|⟨a',len,cap,m,n,D,Pl,e1,_,_,_,_,e2,_⟩
 ·simp[Value.cells] at e1;rw[e1.2.1];exact Nat.zero_le _
 ·simp[Value.cells] at e1;injection e2 with e2 _
  subst e2;have h1:=Vfa ((List.range len).map D);rw[List.length_map,List.length_range] at h1;have:Rows.uptoBulkAll ((List.range len).map D)≤Rows.uptoBulk (DataW.slice ((List.range len).map D) ((List.range (m-len)).map fun j=>D (len+j))):=by simp only[Rows.uptoBulk];omega
  omega
end
section
variable {H:Type} {enc:TypeId×Value→H} {w:World} {sp:Nat→Bool} {held:Bool} {fuel:Nat}
end
section
variable {H:Type} {enc:TypeId×Value→H} {w:World} {sp:Nat→Bool} {held:Bool} {b:Nat} {r:Reach} {v:Value} {d:DataW H} {p:List MemPlace}
theorem Vfl (hv:Value.okWide Tryz.prog w r b 43 v) (h:DataW.Trod enc Tryz.prog w 0 sp held 43 v d p):∃l,RSl Qe1 1 T0 w v l:=by
 obtain⟨a0,len0,cap0,rfl⟩:=okWide_slice Tryz.underlying43 hv;obtain⟨fuel,hf⟩:=h;obtain⟨u,l,e,hx⟩:=Q8e hf;simp[Value.cells] at e;subst e;exact⟨l,hx⟩
end
section
variable {H:Type} {enc:TypeId×Value→H} {w:World} {sp:Nat→Bool} {held:Bool} {fuel:Nat}
end
section
variable {H:Type} {enc:TypeId×Value→H} {w:World} {sp:Nat→Bool} {held:Bool} {b:Nat} {r:Reach} {v:Value} {d:DataW H} {p:List MemPlace}
theorem Vfd (hv:Value.okWide Tryz.prog w r b 23 v) (hw:Qh6 23 d) (h:DataW.Trod enc Tryz.prog w 0 sp held 23 v d p):∃l,RSl RNo 4 T0 w v l:=by
 obtain⟨a0,len0,cap0,rfl⟩:=okWide_slice Tryz.underlying23 hv;obtain⟨fuel,hf⟩:=h;obtain⟨u,l,e,hx⟩:=Q29 hw hf;simp[Value.cells] at e;subst e;exact⟨l,hx⟩
end
end Go.Proofs.YtgnccjojfebkeaaGreat
