/- Arguments as they come in, opened: what is read off them as a datum, told by the words of Rep. -/
import Derived.Test.YtgnccjojfebkeaaGreatRows
import Derived.ProofKit
import Derived.OpenShut
import Derived.ShutString
import Derived.ChangeOld
import Derived.Carry
import Derived.Deep.Slices
import Derived.Test.YtgnccjojfebkeaaGreatQ7ca6115a38
set_option linter.unusedVariables false
set_option linter.unusedSimpArgs false
set_option maxRecDepth 100000
namespace Go.Proofs.YtgnccjojfebkeaaGreat
open Go Go.RowKit Go.ChangeShapes Go.WideShapes Go.Deep Cp
theorem Q2x {α:Type} {Q:Nat→α→Prop}:∀(n:Nat),(∀i,i<n→∃x,Q i x)→∃l:List α,l.length=n∧∀i x,l[i]?=some x→Q i x
 |0,_=>⟨[],rfl,by simp⟩
 |n+1,h=>by
  obtain⟨l,hl,hq⟩:=Q2x n (fun i hi=>h i (by omega));obtain⟨x,hx⟩:=h n (by omega);refine⟨l++[x],by simp[hl],fun i y hy=> ?_⟩;by_cases hi:i<n
  ·rw[List.getElem?_append_left (by omega)] at hy;exact hq i y hy
  ·by_cases he:i=n
   ·subst he;rw[List.getElem?_append_right (by omega),hl,Nat.sub_self] at hy;have:x=y:=by simpa using hy
    subst this;exact hx
   ·rw[List.getElem?_eq_none (by simp;omega)] at hy;cases hy
theorem Q6f {α:Type} {l:List α} (h:l.length=2):∃a b,l=[a,b]:=by
 cases l with
 |nil=>simp at h
 |cons a l=>cases l with
  |nil=>simp at h
  |cons b l=>cases l with
   |nil=>exact⟨a,b,rfl⟩
   |cons c l=>simp at h
theorem Vda {α:Type} {l:List α} (h:l.length=3):∃a b c,l=[a,b,c]:=by
 cases l with
 |nil=>simp at h
 |cons a l=>
  obtain⟨b,c,rfl⟩:=Q6f (l:=l) (by simpa using h);exact⟨a,b,c,rfl⟩
theorem Vdb {α:Type} {l:List α} (h:l.length=4):∃a b c d,l=[a,b,c,d]:=by
 cases l with
 |nil=>simp at h
 |cons a l=>
  obtain⟨b,c,d,rfl⟩:=Vda (l:=l) (by simpa using h);exact⟨a,b,c,d,rfl⟩
section
variable {H:Type} {enc:TypeId×Value→H} {w:World} {sp:Nat→Bool} {held:Bool} {fuel:Nat}
abbrev T0:Nat→Prop:=fun _=>True
theorem Q8c {n:Int} (h:(Lit.int .i64 n).wf=true):I64 n:=bounds_i64 h
theorem Qpv {t:Nat} {cs:List Value} {y:DataW H×List MemPlace} (hu:Tryz.prog.underlying t=some (.int .i64)) (h:DataW.trod enc Tryz.prog w 0 sp held fuel t cs=some y):∃n,cs=[.int .i64 n]∧I64 n:=by
 obtain⟨n,e,_,hw⟩:=DataW.trod_int hu h;exact⟨n,e,Q8c hw⟩
theorem Vcb {α:Type} {R:Rd α} {sz:Nat} {w:World} (hz:0<sz) {a:Addr} {len cap:Nat} (hl:len≤cap) (hm:cap≤maxLen)
  (hQ:∀i,i<len→∃x,∃cs:List Value,cs.length=sz∧(∀j,j<sz→w.cell? ((a.add (i * sz)).add j)=cs[j]?)∧R T0 w cs x):∃v l,[Value.slice (some a) len cap]=[v]∧RSl R sz T0 w v l:=by
 obtain⟨l,hll,hq⟩:=Q2x len hQ;subst hll;refine⟨_,l,rfl,a,cap,rfl,hl,hm,fun hne=> ?_⟩;have h0:0<l.length:=List.length_pos_iff.2 hne;obtain⟨cs0,c0,d0,_⟩:=hq 0 l[0] (List.getElem?_eq_getElem h0);have hc0:=d0 0 hz;rw[List.getElem?_eq_getElem (by omega)] at hc0;simp only[Nat.zero_mul] at hc0;have ha0:∀b:Addr,b.add 0=b:=fun b=>by simp[Addr.add]
 rw[ha0,ha0] at hc0;have hsp:=World.cell?_spot hc0;obtain⟨b,o,s⟩:=a;simp only at hsp;subst hsp;refine⟨b,o,rfl,trivial,World.block_lt_of_cell? _ _ hc0,fun i x hx=> ?_⟩;obtain⟨cs,c1,c2,c3⟩:=hq i x hx;refine⟨cs,c1,fun j v hv=> ?_,c3⟩;have hj:j<sz:=by
  rw[←c1];rcases Nat.lt_or_ge j cs.length with h|h
  ·exact h
  ·rw[List.getElem?_eq_none h] at hv;cases hv
 have:=c2 j hj;rw[Addr.add_mid,Addr.add_mid,hv] at this;exact this
def Qh6 (t:TypeId) (d:DataW H):Prop:=∀n∈DataW.weights Tryz.prog t d,n≤140737488351232
theorem Qyc {ts:List TypeId} {ds:List (DataW H)} (h:(DataW.weightsEach Tryz.prog ts ds).all (· ≤reachBytes)=true):
  ∀(i:Nat) (t:TypeId) (d:DataW H),ts[i]?=some t→ds[i]?=some d→Qh6 t d:=by
 induction ts generalizing ds with
 |nil=>intro i t d h1;simp at h1
 |cons t0 ts ih=>
  cases ds with
  |nil=>intro i t d _ h2;simp at h2
  |cons d0 ds=>
   simp only[DataW.weightsEach,List.all_append,Bool.and_eq_true] at h;intro i t d h1 h2 n hn;cases i with
   |zero=>
    have e1:t0=t:=by simpa using h1
    have e2:d0=d:=by simpa using h2
    subst e1;subst e2;have:=List.all_eq_true.1 h.1 n hn;exact of_decide_eq_true this
   |succ i=>exact ih h.2 i t d (by simpa using h1) (by simpa using h2) n hn
theorem Qpn {e:TypeId} {d:DataW H}:∀{ds:List (DataW H)},d∈ds→∀n∈DataW.weights Tryz.prog e d,n∈DataW.weightsAll Tryz.prog e ds
 |d0::ds,h,n,hn=>by
  simp only[DataW.weightsAll,List.mem_append];rcases List.mem_cons.1 h with rfl|h
  ·exact .inl hn
  ·exact .inr (Qpn h n hn)
theorem Qg8 {t:TypeId} {fs:Array Field} {parts:List (DataW H)} (hu:Tryz.prog.underlying t=some (.struct fs)) (h:Qh6 t (.agg parts)):
  ∀(i:Nat) (t:TypeId) (d:DataW H),(fs.toList.map (·.type))[i]?=some t→parts[i]?=some d→Qh6 t d:=by
 unfold Qh6 at h;simp only[DataW.weights,hu] at h;refine Qyc (ts:=fs.toList.map (·.type)) (ds:=parts) (List.all_eq_true.2 fun n hn=> ?_);exact decide_eq_true (h n hn)
theorem Vb2 {t:Nat} {cs:List Value} {y:DataW H×List MemPlace} (hu:Tryz.prog.underlying t=some .string) (hw:Qh6 t y.1) (h:DataW.trod enc Tryz.prog w 0 sp held fuel t cs=some y):∃v s,cs=[v]∧RTx v s:=by
 obtain⟨s,e,rfl,hl⟩:=DataW.trod_string hu h;exact⟨_,s.data.toList,e,by simp,hw _ (by simp[DataW.weights])⟩
theorem Vb0 {α:Type} {R:Rd α} {sz t e:Nat} (hz:0<sz) (ht:Tryz.prog.underlying t=some (.slice e)) (hC:Tryz.prog.cellsOf e=sz)
  (hR:∀n cs y,cs.length=sz→Qh6 e y.1→DataW.trod enc Tryz.prog w 0 sp held n e cs=some y→∃x,R T0 w cs x)
  {cs:List Value} {y:DataW H×List MemPlace} (hw:Qh6 t y.1) (h:DataW.trod enc Tryz.prog w 0 sp held fuel t cs=some y):∃v l,cs=[v]∧RSl R sz T0 w v l:=by
 rcases open_slice ht h with⟨rfl,_⟩|⟨a,len,cap,m,n,D,Pl,rfl,_,hl,hm,hmm,rfl,hi⟩
 ·exact⟨_,[],rfl,RSl.nil_ (Nat.zero_le _)⟩
 ·have hlm:len≤m:=by rw[hmm];split<;>omega
  have hsm:∀i,i<len→Qh6 e (D i):=by
   intro i hi' k hk;refine hw k ?_;simp only[DataW.weights,ht,List.mem_cons,List.mem_append];exact .inr (.inl (Qpn (List.mem_map.2 ⟨i,List.mem_range.2 hi',rfl⟩) k hk))
  have hQ:∀i,i<len→∃x,∃cs,cs.length=sz∧(∀j,j<sz→w.cell? ((a.add (i * sz)).add j)=cs[j]?)∧R T0 w cs x:=by
   intro i hi';obtain⟨cs',hc,ht'⟩:=hi i (by omega);rw[hC] at hc;obtain⟨_,hcl,hat⟩:=World.cells?_some hc;obtain⟨x,hx⟩:=hR n cs' _ hcl (hsm i hi') ht';exact⟨x,cs',hcl,hat,hx⟩
  exact Vcb hz hl hm hQ
theorem Vcl {α:Type} {R:Rd α} {sz t e:Nat} (hz:0<sz) (ht:Tryz.prog.underlying t=some (.slice e)) (hC:Tryz.prog.cellsOf e=sz)
  (hR:∀n cs y,cs.length=sz→DataW.trod enc Tryz.prog w 0 sp held n e cs=some y→∃x,R T0 w cs x)
  {cs:List Value} {y:DataW H×List MemPlace} (h:DataW.trod enc Tryz.prog w 0 sp held fuel t cs=some y):∃v l,cs=[v]∧RSl R sz T0 w v l:=by
 rcases open_slice ht h with⟨rfl,_⟩|⟨a,len,cap,m,n,D,Pl,rfl,_,hl,hm,hmm,_,hi⟩
 ·exact⟨_,[],rfl,RSl.nil_ (Nat.zero_le _)⟩
 ·have hlm:len≤m:=by rw[hmm];split<;>omega
  have hQ:∀i,i<len→∃x,∃cs,cs.length=sz∧(∀j,j<sz→w.cell? ((a.add (i * sz)).add j)=cs[j]?)∧R T0 w cs x:=by
   intro i hi';obtain⟨cs',hc,ht'⟩:=hi i (by omega);rw[hC] at hc;obtain⟨_,hcl,hat⟩:=World.cells?_some hc;obtain⟨x,hx⟩:=hR n cs' _ hcl ht';exact⟨x,cs',hcl,hat,hx⟩
  exact Vcb hz hl hm hQ
theorem Qyn:Tryz.prog.cellsOf 3=1:=by kernel_rfl
theorem Q78:Tryz.prog.cellsOf 196=2:=by kernel_rfl
theorem Q9b:Tryz.prog.cellsOf 101=1:=by kernel_rfl
theorem Qta:Tryz.prog.cellsOf 103=2:=by kernel_rfl
theorem Vb1 {cs:List Value} {y:DataW H×List MemPlace} (h:DataW.trod enc Tryz.prog w 0 sp held fuel 196 cs=some y):∃s,Qdt T0 w cs s:=by
 obtain⟨xs,n,_,_,hl,hx,hg⟩:=DataW.trod_struct Tryz.underlying196 h;obtain⟨c0,c1,rfl⟩:=Q6f (hl.trans Q78);obtain⟨y0,y1,rfl⟩:=Q6f hx
 ··have g0:=hg 0 _ rfl;have g1:=hg 1 _ rfl;simp[Qyn] at g0 g1;obtain⟨a,e0,i0⟩:=Qpv Tryz.underlying3 g0;obtain⟨b,e1,i1⟩:=Qpv Tryz.underlying3 g1;simp at e0 e1;exact⟨(a,b),by rw[e0,e1],i0,i1⟩
theorem Q90 {cs:List Value} {y:DataW H×List MemPlace} (h:DataW.trod enc Tryz.prog w 0 sp held fuel 101 cs=some y):∃v l,cs=[v]∧RSl Qdt 2 T0 w v l:=
 Vcl (by omega) Tryz.underlying101 Q78 (fun _ _ _ _ h=>Vb1 h) h
theorem Qxu {cs:List Value} {y:DataW H×List MemPlace} (h:DataW.trod enc Tryz.prog w 0 sp held fuel 103 cs=some y):∃m,RMk T0 w cs m:=by
 obtain⟨xs,n,_,_,hl,hx,hg⟩:=DataW.trod_struct Tryz.underlying103 h;obtain⟨c0,c1,rfl⟩:=Q6f (hl.trans Qta);obtain⟨y0,y1,rfl⟩:=Q6f hx
 ··have g0:=hg 0 _ rfl;have g1:=hg 1 _ rfl;simp[Qyn,Q9b] at g0 g1;obtain⟨v,l,e0,i0⟩:=Q90 g0;obtain⟨b,e1,i1⟩:=Qpv Tryz.underlying3 g1;simp at e0 e1;exact⟨(l,b),v,by rw[e0,e1],i0,i1⟩
theorem Vc6:Tryz.prog.cellsOf 9=1:=by kernel_rfl
end
section
variable {H:Type} {enc:TypeId×Value→H} {w:World} {sp:Nat→Bool} {held:Bool} {b:Nat} {r:Reach} {v:Value} {d:DataW H} {p:List MemPlace}
end
section
variable {H:Type} {enc:TypeId×Value→H} {w:World} {sp:Nat→Bool} {held:Bool} {fuel:Nat}
theorem Vbw {t:Nat} {cs:List Value} {y:DataW H×List MemPlace} (hu:Tryz.prog.underlying t=some (.int .u8)) (h:DataW.trod enc Tryz.prog w 0 sp held fuel t cs=some y):∃s:UInt8,cs=[.int .u8 (s.toNat:Int)]:=by
 obtain⟨n,e,_,hw⟩:=DataW.trod_int hu h;obtain⟨h1,h2⟩:=bounds_u8 hw;refine⟨UInt8.ofNat n.toNat,?_⟩;rw[e];have h3:((UInt8.ofNat n.toNat).toNat:Int)=n:=by
  rw[UInt8.toNat_ofNat'];omega
 rw[h3]
theorem Q89:Tryz.prog.cellsOf 40=1:=by kernel_rfl
theorem Q74:Tryz.prog.cellsOf 129=3:=by kernel_rfl
theorem Q87:Tryz.prog.cellsOf 39=1:=by kernel_rfl
theorem Vbc:Tryz.prog.cellsOf 5=1:=by kernel_rfl
theorem Vbv {cs:List Value} {y:DataW H×List MemPlace} (h:DataW.trod enc Tryz.prog w 0 sp held fuel 129 cs=some y):∃a,RAt T0 w cs a:=by
 obtain⟨xs,n,_,_,hl,hx,hg⟩:=DataW.trod_struct Tryz.underlying129 h;obtain⟨c0,c1,c2,rfl⟩:=Vda (hl.trans Q74);obtain⟨y0,y1,rfl⟩:=Q6f hx
 ··have g0:=hg 0 _ rfl;have g1:=hg 1 _ rfl;simp[Qta,Vbc] at g0 g1;obtain⟨m,v,e0,i0,i1⟩:=Qxu g0;obtain⟨s,e1⟩:=Vbw Tryz.underlying5 g1;simp at e0 e1;exact⟨(m,s),v,by rw[e0.1,e0.2,e1],i0,i1⟩
theorem Q9w {cs:List Value} {y:DataW H×List MemPlace} (h:DataW.trod enc Tryz.prog w 0 sp held fuel 39 cs=some y):∃v l,cs=[v]∧RSl RAt 3 T0 w v l:=
 Vcl (by omega) Tryz.underlying39 Q74 (fun _ _ _ _ h=>Vbv h) h
theorem Q9y {cs:List Value} {y:DataW H×List MemPlace} (h:DataW.trod enc Tryz.prog w 0 sp held fuel 40 cs=some y):∃v l,cs=[v]∧RSl RMk 2 T0 w v l:=
 Vcl (by omega) Tryz.underlying40 Qta (fun _ _ _ _ h=>Qxu h) h
end
section
variable {H:Type} {enc:TypeId×Value→H} {w:World} {sp:Nat→Bool} {held:Bool} {b:Nat} {r:Reach} {v:Value} {d:DataW H} {p:List MemPlace}
end
section
variable {H:Type} {enc:TypeId×Value→H} {w:World} {sp:Nat→Bool} {held:Bool} {fuel:Nat}
theorem Vbe:Tryz.prog.cellsOf 134=3:=by kernel_rfl
theorem Vdm {cs:List Value} {y:DataW H×List MemPlace} (hw:Qh6 134 y.1) (h:DataW.trod enc Tryz.prog w 0 sp held fuel 134 cs=some y):∃r,RRn T0 w cs r:=by
 obtain⟨xs,n,_,rfl,hl,hx,hg⟩:=DataW.trod_struct Tryz.underlying134 h;obtain⟨c0,c1,c2,rfl⟩:=Vda (hl.trans Vbe);obtain⟨y0,y1,rfl⟩:=Q6f hx
 ··have g0:=hg 0 _ rfl;have g1:=hg 1 _ rfl;simp[Qta,Vc6] at g0 g1;obtain⟨m,v,e0,i0,i1⟩:=Qxu g0;obtain⟨u,t,e1,i2⟩:=Vb2 Tryz.underlying9 (Qg8 Tryz.underlying134 hw 1 _ _ rfl rfl) g1;simp at e0 e1;exact⟨(m,t),v,u,by rw[e0.1,e0.2,e1],i0,i1,i2⟩
end
section
variable {H:Type} {enc:TypeId×Value→H} {w:World} {sp:Nat→Bool} {held:Bool} {b:Nat} {r:Reach} {v:Value} {d:DataW H} {p:List MemPlace}
end
section
variable {H:Type} {enc:TypeId×Value→H} {w:World} {sp:Nat→Bool} {held:Bool} {fuel:Nat}
theorem Vdv {α:Type} {l:List α} (h:l.length=7):∃a b c d e f g,l=[a,b,c,d,e,f,g]:=by
 match l,h with
 | [a,b,c,d,e,f,g],_=>exact⟨a,b,c,d,e,f,g,rfl⟩
theorem Q75:Tryz.prog.cellsOf 136=7:=by kernel_rfl
theorem Vbx {cs:List Value} {y:DataW H×List MemPlace} (hw:Qh6 136 y.1) (h:DataW.trod enc Tryz.prog w 0 sp held fuel 136 cs=some y):∃r,RDe T0 w cs r:=by
 obtain⟨xs,n,_,rfl,hl,hx,hg⟩:=DataW.trod_struct Tryz.underlying136 h;obtain⟨c0,c1,c2,c3,c4,c5,c6,rfl⟩:=Vdv (hl.trans Q75);obtain⟨y0,y1,y2,y3,rfl⟩:=Vdb hx
 ··have g0:=hg 0 _ rfl;have g1:=hg 1 _ rfl;have g2:=hg 2 _ rfl;have g3:=hg 3 _ rfl;simp[Qyn,Vbe,Qta] at g0 g1 g2 g3;obtain⟨k,e0,i0⟩:=Qpv Tryz.underlying3 g0;obtain⟨r,v,s,e1,i1,i2,i3⟩:=Vdm (Qg8 Tryz.underlying136 hw 1 _ _ rfl rfl) g1;obtain⟨m,u,e2,i4,i5⟩:=Qxu g2;obtain⟨q,e3,i6⟩:=Qpv Tryz.underlying3 g3;simp at e0 e1 e2 e3;exact⟨⟨k,r,m,q⟩,v,s,u,by rw[e0,e1.1,e1.2.1,e1.2.2,e2.1,e2.2,e3],i0,i1,i2,i3,i4,i5,i6⟩
theorem Q9x {cs:List Value} {y:DataW H×List MemPlace} (hw:Qh6 46 y.1) (h:DataW.trod enc Tryz.prog w 0 sp held fuel 46 cs=some y):∃v l,cs=[v]∧RSl RDe 7 T0 w v l:=
 Vb0 (by omega) Tryz.underlying46 Q75 (fun _ _ _ _ hs h=>Vbx hs h) hw h
end
section
variable {H:Type} {enc:TypeId×Value→H} {w:World} {sp:Nat→Bool} {held:Bool} {b:Nat} {r:Reach} {v:Value} {d:DataW H} {p:List MemPlace}
end
section
variable {H:Type} {enc:TypeId×Value→H} {w:World} {sp:Nat→Bool} {held:Bool} {fuel:Nat}
theorem Q76:Tryz.prog.cellsOf 43=1:=by kernel_rfl
theorem Q8e {cs:List Value} {y:DataW H×List MemPlace} (h:DataW.trod enc Tryz.prog w 0 sp held fuel 43 cs=some y):∃v l,cs=[v]∧RSl Qe1 1 T0 w v l:=
 Vcl (by omega) Tryz.underlying43 Qyn (fun _ _ _ _ h=>by obtain⟨n,e,i⟩:=Qpv Tryz.underlying3 h;exact⟨n,e,i⟩) h
end
section
variable {H:Type} {enc:TypeId×Value→H} {w:World} {sp:Nat→Bool} {held:Bool} {b:Nat} {r:Reach} {v:Value} {d:DataW H} {p:List MemPlace}
end
section
variable {H:Type} {enc:TypeId×Value→H} {w:World} {sp:Nat→Bool} {held:Bool} {fuel:Nat}
theorem Q77:Tryz.prog.cellsOf 48=4:=by kernel_rfl
theorem Q88:Tryz.prog.cellsOf 46=1:=by kernel_rfl
theorem Vbz {cs:List Value} {y:DataW H×List MemPlace} (hw:Qh6 48 y.1) (h:DataW.trod enc Tryz.prog w 0 sp held fuel 48 cs=some y):∃r,RNo T0 w cs r:=by
 obtain⟨xs,n,_,rfl,hl,hx,hg⟩:=DataW.trod_struct Tryz.underlying48 h;obtain⟨c0,c1,c2,c3,rfl⟩:=Vdb (hl.trans Q77);obtain⟨y0,y1,y2,y3,rfl⟩:=Vdb hx
 ··have g0:=hg 0 _ rfl;have g1:=hg 1 _ rfl;have g2:=hg 2 _ rfl;have g3:=hg 3 _ rfl;simp[Qyn,Q76,Q88] at g0 g1 g2 g3;obtain⟨a,e0,i0⟩:=Qpv Tryz.underlying3 g0;obtain⟨b,e1,i1⟩:=Qpv Tryz.underlying3 g1;obtain⟨v,l,e2,i2⟩:=Q8e g2;obtain⟨u,q,e3,i3⟩:=Q9x (Qg8 Tryz.underlying48 hw 3 _ _ rfl rfl) g3;simp at e0 e1 e2 e3;exact⟨⟨a,b,l,q⟩,v,u,by rw[e0,e1,e2,e3],i0,i1,i2,i3⟩
end
section
variable {H:Type} {enc:TypeId×Value→H} {w:World} {sp:Nat→Bool} {held:Bool} {b:Nat} {r:Reach} {v:Value} {d:DataW H} {p:List MemPlace}
end
section
variable {H:Type} {enc:TypeId×Value→H} {w:World} {sp:Nat→Bool} {held:Bool} {fuel:Nat}
def RRe (F:Nat→Prop) (w:World) (cs:List Value) (l:List No):Prop:=∃v,cs=[v]∧RSl RNo 4 F w v l
theorem Vih:Tryz.prog.cellsOf 25=1:=by kernel_rfl
theorem Q9a:Tryz.prog.cellsOf 23=1:=by kernel_rfl
theorem Vkk {α:Type} {l:List α} (h:l.length=1):∃a,l=[a]:=by
 match l,h with
 | [a],_=>exact⟨a,rfl⟩
theorem Q29 {cs:List Value} {y:DataW H×List MemPlace} (hw:Qh6 23 y.1) (h:DataW.trod enc Tryz.prog w 0 sp held fuel 23 cs=some y):∃v l,cs=[v]∧RSl RNo 4 T0 w v l:=
 Vb0 (by omega) Tryz.underlying23 Q77 (fun _ _ _ _ hs h=>Vbz hs h) hw h
theorem Vku {cs:List Value} {y:DataW H×List MemPlace} (hw:Qh6 25 y.1) (h:DataW.trod enc Tryz.prog w 0 sp held fuel 25 cs=some y):∃r,RRe T0 w cs r:=by
 obtain⟨xs,n,_,rfl,hl,hx,hg⟩:=DataW.trod_struct Tryz.underlying25 h;obtain⟨c0,rfl⟩:=Vkk (hl.trans Vih);obtain⟨y0,rfl⟩:=Vkk hx
 ··have g0:=hg 0 _ rfl;simp[Q9a] at g0;obtain⟨v,l,e0,i0⟩:=Q29 (Qg8 Tryz.underlying25 hw 0 _ _ rfl rfl) g0;simp at e0;exact⟨l,v,by rw[e0],i0⟩
end
section
variable {H:Type} {enc:TypeId×Value→H} {w:World} {sp:Nat→Bool} {held:Bool} {b:Nat} {r:Reach} {v:Value} {d:DataW H} {p:List MemPlace}
end
section
variable {H:Type} {enc:TypeId×Value→H} {w:World} {sp:Nat→Bool} {held:Bool} {fuel:Nat}
theorem Q1n:Tryz.prog.cellsOf 42=2:=by kernel_rfl
theorem Q9z {cs:List Value} {y:DataW H×List MemPlace} (h:DataW.trod enc Tryz.prog w 0 sp held fuel 42 cs=some y):∃s,RSt T0 w cs s:=by
 obtain⟨xs,n,_,_,hl,hx,hg⟩:=DataW.trod_struct Tryz.underlying42 h;obtain⟨c0,c1,rfl⟩:=Q6f (hl.trans Q1n);obtain⟨y0,y1,rfl⟩:=Q6f hx
 ··have g0:=hg 0 _ rfl;have g1:=hg 1 _ rfl;simp[Q87,Q89] at g0 g1;obtain⟨v,l,e0,i0⟩:=Q9w g0;obtain⟨u,m,e1,i1⟩:=Q9y g1;simp at e0 e1;exact⟨(l,m),v,u,by rw[e0,e1],i0,i1⟩
end
section
variable {H:Type} {enc:TypeId×Value→H} {w:World} {sp:Nat→Bool} {held:Bool} {b:Nat} {r:Reach} {v:Value} {d:DataW H} {p:List MemPlace}
end
section
variable {H:Type} {enc:TypeId×Value→H} {w:World} {sp:Nat→Bool} {held:Bool} {fuel:Nat}
theorem Vd5 {α:Type} {l:List α} (h:l.length=6):∃a b c d e f,l=[a,b,c,d,e,f]:=by
 match l,h with
 | [a,b,c,d,e,f],_=>exact⟨a,b,c,d,e,f,rfl⟩
theorem Vbd:Tryz.prog.cellsOf 45=7:=by kernel_rfl
theorem Vby {cs:List Value} {y:DataW H×List MemPlace} (hw:Qh6 45 y.1) (h:DataW.trod enc Tryz.prog w 0 sp held fuel 45 cs=some y):∃r,RDk T0 w cs r:=by
 obtain⟨xs,n,_,rfl,hl,hx,hg⟩:=DataW.trod_struct Tryz.underlying45 h;obtain⟨c0,c1,c2,c3,c4,c5,c6,rfl⟩:=Vdv (hl.trans Vbd);obtain⟨y0,y1,y2,y3,y4,y5,rfl⟩:=Vd5 hx
 ··have g0:=hg 0 _ rfl;have g1:=hg 1 _ rfl;have g2:=hg 2 _ rfl;have g3:=hg 3 _ rfl;have g4:=hg 4 _ rfl;have g5:=hg 5 _ rfl;simp[Qyn,Q1n,Q76,Q9a] at g0 g1 g2 g3 g4 g5;obtain⟨k,e0,i0⟩:=Qpv Tryz.underlying3 g0;obtain⟨s,v,u,e1,i1,i2⟩:=Q9z g1;obtain⟨vs,l,e2,i3⟩:=Q8e g2;obtain⟨vw,m,e3,i4⟩:=Q29 (Qg8 Tryz.underlying45 hw 3 _ _ rfl rfl) g3;obtain⟨q,e4,i5⟩:=Qpv Tryz.underlying3 g4;obtain⟨vo,r,e5,i6⟩:=Q29 (Qg8 Tryz.underlying45 hw 5 _ _ rfl rfl) g5;simp at e0 e1 e2 e3 e4 e5;exact⟨⟨k,s,l,m,q,r⟩,v,u,vs,vw,vo,by rw[e0,e1.1,e1.2,e2,e3,e4,e5],i0,i1,i2,i3,i4,i5,i6⟩
end
section
variable {H:Type} {enc:TypeId×Value→H} {w:World} {sp:Nat→Bool} {held:Bool} {b:Nat} {r:Reach} {v:Value} {d:DataW H} {p:List MemPlace}
end
end Go.Proofs.YtgnccjojfebkeaaGreat
