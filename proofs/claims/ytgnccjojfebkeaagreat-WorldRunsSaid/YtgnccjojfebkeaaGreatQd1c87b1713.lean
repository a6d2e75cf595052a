/- slices.Insert, of one note, into notes of one's own. -/
import Derived.Test.YtgnccjojfebkeaaGreatQf21f87fce6
import Derived.Test.YtgnccjojfebkeaaGreatQb12723dfd3
set_option linter.unusedVariables false
set_option linter.unusedSimpArgs false
set_option maxRecDepth 100000
set_option maxHeartbeats 4000000
namespace Go.Proofs.YtgnccjojfebkeaaGreat
open Go Go.RowKit Go.BigFrame Cp
theorem Qz3 {A ys:List Value} {p q r:Nat} (hr:r=p+4) (hy:ys.length=4) (h1:p≤q) (h2:q+4≤A.length):
  ((A.take r++(A.take q).drop p++A.drop (r+((A.take q).drop p).length)).take p++ys++(A.take r++(A.take q).drop p++A.drop (r+((A.take q).drop p).length)).drop (p+4)).take (q+4)=(A.take q).take p++ys++(A.take q).drop p:=by
 subst hr;have e1:(A.take (p+4)++(A.take q).drop p++A.drop (p+4+((A.take q).drop p).length)).take p=A.take p:=by
  rw[List.append_assoc,List.take_append_of_le_length (by rw[List.length_take];omega),List.take_take];congr 1;omega
 have e2:(A.take (p+4)++(A.take q).drop p++A.drop (p+4+((A.take q).drop p).length)).drop (p+4)=(A.take q).drop p++A.drop (p+4+((A.take q).drop p).length):=by
  rw[List.append_assoc];exact List.drop_left' (by rw[List.length_take];omega)
 exact Zay
theorem Q3x {A ys zs:List Value} {p r k:Nat} (hr:r=p+4) (hy:ys.length=4) (hk:k=r+zs.length) (h2:p+4+zs.length≤A.length):
  ((A.take p++ys++A.drop (p+ys.length)).take r++zs++(A.take p++ys++A.drop (p+ys.length)).drop (r+zs.length)).take k=A.take p++ys++zs:=by
 subst hr hk;have e1:(A.take p++ys++A.drop (p+ys.length)).take (p+4)=A.take p++ys:=List.take_left' (by rw[List.length_append,List.length_take];omega);rw[e1];exact List.take_left' (by simp only[List.length_append,List.length_take,hy];omega)
theorem Qgc:(Tryz.prog.info? 48).map (·.size)=some 4:=kR
theorem Vdf {n i:Nat} (hi:i<n):((n-i) * 4=Nat.min (n+1-i) (n-i) * 4):=by
 congr 1
 simp only[Nat.min_def];split<;>omega
theorem Q4x {A:List Value} {i n:Nat} (hi:i<n) (h:n * 4≤A.length):((A.take (n * 4)).drop (i * 4)).length=(n-i) * 4:=by
 rw[List.length_drop,List.length_take];omega
theorem Qs7 (w:World) (vb g o n c lb cb:Nat) {cur row:Array Value} {te tg:TypeId} (hv:w.heap[vb]?=some (.cells row te (0,0))) (hg:w.heap[g]?=some (.cells cur tg (0,0))) (h0:cur.size≠0) (hne:vb≠g):
  (callFunc 197 #[.slice (some ⟨vb,0,none⟩) n c,.slice (some ⟨g,o,none⟩) lb cb]).run Tryz.prog w= .ok (.value (.bool false)) w:=by
 rw[run_callFunc_extern Tryz.func197 kR kR kR (e:=Extern.SlicesOverlaps.overlaps #[23,23] #[4]) kR,
  Lib.run_overlaps_apart w 23 4 48 Tryz.underlying23 4 Tryz.sizeOf48 ⟨vb,0,none⟩ ⟨g,o,none⟩ n c lb cb hne te tg row.size cur.size (by simp[World.shape?,hv]) (by simp[World.shape?,hg]) h0 (by simp[World.frozen?,hv]) (by simp[World.frozen?,hv])]
 rfl
theorem Qr9 {w:World} {g n c i vb:Nat} {cur:Array Value} {te:TypeId} {x0 x1 x2 x3:Value} (hg:w.heap[g]?=some (.cells cur 48 (0,0))) (hi:i<n) (hc:n+1≤c) (hcm:c≤9223372036854775807) (hcs:cur.size=c * 4)
  (hv:w.heap[vb]?=some (.cells #[x0,x1,x2,x3] te (0,0))) (hne:vb≠g) (h1:∀v∈cur.toList.take (n * 4),v.oneCell'=true) (h1v:∀v∈[x0,x1,x2,x3],v.oneCell'=true) (hn3:n≤1000):
  Calls Tryz.prog 157 #[.slice (some ⟨g,0,none⟩) n c,.int .i64 i,.slice (some ⟨vb,0,none⟩) 1 1] w fun e w'=>e= .returned (.slice (some ⟨g,0,none⟩) (n+1) c)∧
   ∃row:Array Value,row.size=c * 4∧row.toList.take ((n+1) * 4)=(cur.toList.take (n * 4)).take (i * 4)++[x0,x1,x2,x3]++(cur.toList.take (n * 4)).drop (i * 4)∧w'.heap[g]?=some (.cells row 48 (0,0))∧w.grownBy w' (some g):=by
 have hA:cur.toList.length=c * 4:=by simpa using hcs
 have hz:=Q4x (A:=cur.toList) hi oM;obtain⟨R1,hR1⟩:∃R1:Array Value,R1=(cur.toList.take ((i+1) * 4)++(cur.toList.take (n * 4)).drop (i * 4)++cur.toList.drop ((i+1) * 4+((cur.toList.take (n * 4)).drop (i * 4)).length)).toArray:=⟨_,rfl⟩;have hR1s:R1.size=c * 4:=by rw[hR1,List.size_toArray,Qcy (by rw[hz];omega)];exact hA
 obtain⟨R2,hR2⟩:∃R2:Array Value,R2=(R1.toList.take (i * 4)++[x0,x1,x2,x3]++R1.toList.drop (i * 4+[x0,x1,x2,x3].length)).toArray:=⟨_,rfl⟩;have hR2s:R2.size=c * 4:=by rw[hR2,List.size_toArray,Qcy sP];simpa using hR1s
 have hR2t:R2.toList.take ((n+1) * 4)=(cur.toList.take (n * 4)).take (i * 4)++[x0,x1,x2,x3]++(cur.toList.take (n * 4)).drop (i * 4):=by
  have hlen:[x0,x1,x2,x3].length=4:=rfl;rw[hR2,List.toList_toArray,hR1,List.toList_toArray,hlen];have:=Qz3 (A:=cur.toList) (ys:=[x0,x1,x2,x3]) (p:=i * 4) (q:=n * 4) (r:=(i+1) * 4) oM rfl oM oM;rw[show(n+1) * 4=n * 4+4 by omega];exact this
 have hcp1:∀(W:World),W.heap[g]?=some (.cells cur 48 (0,0))→∀ty dc sc,(Builtin.copy_ #[23,23] ty #[.slice (some ⟨g,(i+1) * 4,none⟩) (n-i) dc,.slice (some ⟨g,i * 4,none⟩) (n+1-i) sc]).run Tryz.prog W= .ok (goInt (Nat.min (n+1-i) (n-i):Nat)) (W.setRow g R1):=fun W hW ty dc sc=>by
  rw[hR1];exact Qdf W _ _ ty _ 4 g _ _ dc ⟨g,i * 4,none⟩ _ sc cur _ _ Tryz.underlying23 Qgc hW (by rw[hz];exact Vdf hi)
   (fun j v hj=>by
    rw[Qcl];refine Qb4 hW ?_;rw[List.getElem?_drop,List.getElem?_take] at hj;split at hj
    ·exact hj
    ·cases hj) (by rw[hz,hcs];omega) (fun v hv=>h1 v (List.mem_of_mem_drop hv))
 have hcp2:∀(W:World),W.heap[g]?=some (.cells R1 48 (0,0))→W.heap[vb]?=some (.cells #[x0,x1,x2,x3] te (0,0))→∀ty dc,(Builtin.copy_ #[23,23] ty #[.slice (some ⟨g,i * 4,none⟩) (n+1-i) dc,.slice (some ⟨vb,0,none⟩) 1 1]).run Tryz.prog W= .ok (goInt (Nat.min 1 (n+1-i):Nat)) (W.setRow g R2):=fun W hW hWv ty dc=>by
  rw[hR2];exact Qdf W _ _ ty _ 4 g _ _ dc ⟨vb,0,none⟩ 1 1 R1 _ [x0,x1,x2,x3] Tryz.underlying23 Qgc hW (by rw[show Nat.min 1 (n+1-i)=1 by simp only[Nat.min_def];split<;>omega];rfl)
   (fun j v hj=>by rw[Qcl,Nat.zero_add];exact Qb4 hWv (by simpa using hj)) (by rw[hR1s];simp;omega) h1v
 have hov:∀(W:World),W.heap[vb]?=some (.cells #[x0,x1,x2,x3] te (0,0))→W.heap[g]?=some (.cells cur 48 (0,0))→∀o lb cb,(callFunc 197 #[.slice (some ⟨vb,0,none⟩) 1 1,.slice (some ⟨g,o,none⟩) lb cb]).run Tryz.prog W= .ok (.value (.bool false)) W:=fun W h1 h2 o lb cb=>Qs7 W vb g o 1 1 lb cb h1 h2 oM hne
 have hov:=hov w hv hg;have HC1:=hH hcp1;have HC2:=hH hcp2;have HG:=hH hg;have HV:=hH hv;have hwi: -9223372036854775808≤(i:Int)+1∧(i:Int)+1≤9223372036854775807:=oM;have hwn: -9223372036854775808≤(n:Int)+1∧(n:Int)+1≤9223372036854775807:=oM;have hz2:¬((i:Int)=(n:Int)):=oM;have hz3:¬((c:Int)<(n:Int)+1):=oM;have hb1:(0:Int)≤(i:Int)+1:=oM;have hb5:(0:Int)≤(n:Int)+1:=oM;have hb0:(0:Int)≤(i:Int):=oM;have hin:i≤n:=oM;have hinI:(i:Int)≤(n:Int):=oM;have htn:((i:Int)+1).toNat=i+1:=oM;have htm:((n:Int)+1).toNat=n+1:=oM;have hb2:¬(c=i+1):=oM;have hb3:(i:Int)≤(n:Int)+1:=oM;have hb6:(i:Int)+1≤(n:Int)+1:=oM;have hb7:(n:Int)+1≤(c:Int):=oM;have hb4:¬(c=i):=oM;clear hcp1 hcp2 hA hz hR1s h1 h1v hR1 hR2 hcs;have hw1:IntKind.i64.wrap ((i:Int)+1)=(i:Int)+1:=IntWalk.i64_in _ hwi;have hw2:IntKind.i64.wrap ((n:Int)+1)=(n:Int)+1:=IntWalk.i64_in _ hwn;have hw3:wrap64 ((i:Int)+1)=(i:Int)+1:=IntWalk.wrap64_in _ hwi;have hw4:wrap64 ((n:Int)+1)=(n:Int)+1:=IntWalk.wrap64_in _ hwn;clear hwi hwn hcm;go_enter Tryz.func157,Tryz.ntmps157;go_wp2_with (simp only[hov])
 go_region_law (refine Qfo rfl (.tmp 73) (.tmp 76) 23 23 rfl (.slice (some ⟨g,(i+1) * 4,none⟩) (n-i) (c-(i+1))) (.slice (some ⟨g,i * 4,none⟩) (n+1-i) (c-i)) (by simp[Act.eval,Act.put]) (by simp[Act.eval,Act.put]) (HC1.o w.drew HG.o 3 (c-(i+1)) (c-i)) ?_)
 all_goals go_wp2_with ((with_reducible (show wpList _ _ _ (_::_) _ _));(refine Qef _ rfl (.tmp 80) (.tmp 81) 23 23 rfl _ _ rfl rfl (HC2.o _ (setRow_heap w.drew g cur R1 _ _ HG.o) ((setRow_other w.drew g vb R1 hne).trans HV.o) _ _) ?_))
 all_goals go_ret
 all_goals exact⟨rfl,R2,hR2s,hR2t,setRow_heap _ g R1 R2 _ _ (setRow_heap w.drew g cur R1 _ _ HG.o),⟨rfl,rfl,rfl,sI,fun k _ hk=>(setRow_other _ g k R2 (fun e=>hk (congrArg some e))).trans (setRow_other w.drew g k R1 (fun e=>hk (congrArg some e)))⟩⟩
theorem Qtx {w:World} {g n c i vb:Nat} {cur:Array Value} {te:TypeId} {x0 x1 x2 x3:Value} (hg:w.heap[g]?=some (.cells cur 48 (0,0))) (hi:i<n) (hnc:n≤c) (hc:c<n+1) (hcm:c≤9223372036854775807) (hcs:cur.size=c * 4)
  (hv:w.heap[vb]?=some (.cells #[x0,x1,x2,x3] te (0,0))) (h1:∀v∈cur.toList.take (n * 4),v.oneCell'=true) (h1v:∀v∈[x0,x1,x2,x3],v.oneCell'=true) (hn3:n≤1000):
  Calls Tryz.prog 157 #[.slice (some ⟨g,0,none⟩) n c,.int .i64 i,.slice (some ⟨vb,0,none⟩) 1 1] w fun e w'=>∃G,e= .returned (.slice (some ⟨w.heap.size,0,none⟩) (n+1) G)∧n+1≤G∧G≤maxLen∧
   ∃row:Array Value,row.size=G * 4∧row.toList.take ((n+1) * 4)=(cur.toList.take (n * 4)).take (i * 4)++[x0,x1,x2,x3]++(cur.toList.take (n * 4)).drop (i * 4)∧w'.heap[w.heap.size]?=some (.cells row 48 (0,0))∧w.grownBy w' none:=by
 have hA:cur.toList.length=c * 4:=by simpa using hcs
 have hz:=Q4x (A:=cur.toList) hi oM;have hgw:g<w.heap.size:=(Array.getElem?_eq_some_iff.1 hg).1;have hvw:vb<w.heap.size:=(Array.getElem?_eq_some_iff.1 hv).1;obtain⟨i0,hi0,hz0,hz1,hz2⟩:=info_parts Qfg;obtain⟨k,hk⟩:∃k,n+1=i+k:=⟨n+1-i,oM⟩;have holdl:((cur.toList.take (n * 4)).take (i * 4)).length=i * 4:=by rw[List.length_take,List.length_take];omega
 have hold:(Builtin.firstCells i0.size i (.slice (some ⟨g,0,none⟩) i c)).run Tryz.prog w.drew= .ok ((cur.toList.take (n * 4)).take (i * 4)).toArray w.drew:=by
  rw[hz1];exact run_firstCells_some w.drew 4 i ⟨g,0,none⟩ i c ((cur.toList.take (n * 4)).take (i * 4)) holdl (fun j v hj=>by
   rw[Qcl,Nat.zero_add];refine Qb4 (w:=w.drew) hg ?_;rw[List.getElem?_take] at hj;split at hj
   ·rw[List.getElem?_take] at hj;split at hj
    ·exact hj
    ·cases hj
   ·cases hj)
 obtain⟨G,hG⟩:∃G,G=grownCap w (n+1) c 48:=⟨_,rfl⟩;have hGn:n+1≤G:=by rw[hG];exact grownCap_ge w _ _ _
 have hGm:G≤maxLen:=by rw[hG];exact grownCap_le_maxLen w _ _ _ mO
 obtain⟨ROW,hROW⟩:∃ROW:Array Value,ROW=((cur.toList.take (n * 4)).take (i * 4)).toArray++Builtin.zeroCells (Value.agg #[.int .i64 0,.int .i64 0,.slice none 0 0,.slice none 0 0]).cells k++Builtin.zeroCells (Value.agg #[.int .i64 0,.int .i64 0,.slice none 0 0,.slice none 0 0]).cells (G-(i+k)):=⟨_,rfl⟩;have hzc:(Value.agg #[.int .i64 0,.int .i64 0,.slice none 0 0,.slice none 0 0]).cells.size=4:=by rfl
 have hRs:ROW.size=G * 4:=by
  rw[hROW,Array.size_append,Array.size_append,List.size_toArray,holdl];simp only[Builtin.zeroCells,Array.size_map,Array.size_range,hzc];omega
 have hRt:ROW.toList.take (i * 4)=(cur.toList.take (n * 4)).take (i * 4):=by
  rw[hROW,Array.toList_append,Array.toList_append,List.toList_toArray,List.append_assoc];exact List.take_left' holdl
 have hrz:∀ty,(Builtin.append_ #[23,3] ty #[.slice (some ⟨g,0,none⟩) i c,.int .i64 ((n:Int)+1-(i:Int))]).run Tryz.prog w=
   .ok (.slice (some ⟨w.heap.size,0,none⟩) (n+1) G) (w.drew.alloc (.cells ROW 48)):=fun ty=>by
  have h:=Lib.run_append_grow_zeros w 23 3 ty 48 i0 _ .i64 .i64 Tryz.underlying23 Tryz.underlying3 hi0 hz0 (some ⟨g,0,none⟩) i c _ hold k oM oM oM oM (by rw[hz2];omega) (by rw[hz2];exact growslice_fits oM oM);rw[hROW,hG,show(n:Int)+1-(i:Int)=(k:Int) by omega];rw[←hk] at h ⊢;exact h
 obtain⟨R1,hR1⟩:∃R1:Array Value,R1=(ROW.toList.take (i * 4)++[x0,x1,x2,x3]++ROW.toList.drop (i * 4+[x0,x1,x2,x3].length)).toArray:=⟨_,rfl⟩;have hRl:ROW.toList.length=G * 4:=by simpa using hRs
 have hR1s:R1.size=G * 4:=by rw[hR1,List.size_toArray,Qcy (by rw[hRl];simp;omega)];exact hRl
 obtain⟨R2,hR2⟩:∃R2:Array Value,R2=(R1.toList.take ((i+1) * 4)++(cur.toList.take (n * 4)).drop (i * 4)++R1.toList.drop ((i+1) * 4+((cur.toList.take (n * 4)).drop (i * 4)).length)).toArray:=⟨_,rfl⟩;have hR2s:R2.size=G * 4:=by rw[hR2,List.size_toArray,Qcy (by rw[hz];simp;omega)];simpa using hR1s
 have hR2t:R2.toList.take ((n+1) * 4)=(cur.toList.take (n * 4)).take (i * 4)++[x0,x1,x2,x3]++(cur.toList.take (n * 4)).drop (i * 4):=by
  rw[hR2,List.toList_toArray,hR1,List.toList_toArray];have h9:=Q3x (A:=ROW.toList) (ys:=[x0,x1,x2,x3]) (zs:=(cur.toList.take (n * 4)).drop (i * 4)) (p:=i * 4) (r:=(i+1) * 4) (k:=(n+1) * 4) oM rfl (by rw[hz];omega) (by rw[hz,hRl];omega);rw[hRt] at h9;rw[hRt];exact h9
 have hcp1:∀(W:World),W.heap[w.heap.size]?=some (.cells ROW 48 (0,0))→W.heap[vb]?=some (.cells #[x0,x1,x2,x3] te (0,0))→∀ty dc,(Builtin.copy_ #[23,23] ty #[.slice (some ⟨w.heap.size,i * 4,none⟩) (n+1-i) dc,.slice (some ⟨vb,0,none⟩) 1 1]).run Tryz.prog W= .ok (goInt (Nat.min 1 (n+1-i):Nat)) (W.setRow w.heap.size R1):=fun W hW hWv ty dc=>by
  rw[hR1];exact Qdf W _ _ ty _ 4 w.heap.size _ _ dc ⟨vb,0,none⟩ 1 1 ROW _ [x0,x1,x2,x3] Tryz.underlying23 Qgc hW (by rw[show Nat.min 1 (n+1-i)=1 by simp only[Nat.min_def];split<;>omega];rfl)
   (fun j v hj=>by rw[Qcl,Nat.zero_add];exact Qb4 hWv (by simpa using hj)) (by rw[hRs];simp;omega) h1v
 have hcp2:∀(W:World),W.heap[w.heap.size]?=some (.cells R1 48 (0,0))→W.heap[g]?=some (.cells cur 48 (0,0))→∀ty dc sc,(Builtin.copy_ #[23,23] ty #[.slice (some ⟨w.heap.size,(i+1) * 4,none⟩) (n-i) dc,.slice (some ⟨g,i * 4,none⟩) (n-i) sc]).run Tryz.prog W= .ok (goInt (Nat.min (n-i) (n-i):Nat)) (W.setRow w.heap.size R2):=fun W hW hWg ty dc sc=>by
  rw[hR2];exact Qdf W _ _ ty _ 4 w.heap.size _ _ dc ⟨g,i * 4,none⟩ _ sc R1 _ _ Tryz.underlying23 Qgc hW (by rw[hz];congr 1;exact(Nat.min_self _).symm)
   (fun j v hj=>by
    rw[Qcl];refine Qb4 hWg ?_;rw[List.getElem?_drop,List.getElem?_take] at hj;split at hj
    ·exact hj
    ·cases hj) (by rw[hz,hR1s];omega) (fun v hv=>h1 v (List.mem_of_mem_drop hv))
 have HC1:=hH hcp1;have HC2:=hH hcp2;have HG:=hH hg;have HV:=hH hv;have hne1:vb≠w.heap.size:=oM;have hne2:g≠w.heap.size:=oM;have HN:=hH (show(w.drew.alloc (.cells ROW 48)).heap[w.heap.size]?=some (.cells ROW 48 (0,0)) from Qen w.drew _);have HGN:=hH (show(w.drew.alloc (.cells ROW 48)).heap[g]?=some (.cells cur 48 (0,0)) from(Qdu w.drew _ hgw).trans hg);have HVN:=hH (show(w.drew.alloc (.cells ROW 48)).heap[vb]?=some (.cells #[x0,x1,x2,x3] te (0,0)) from(Qdu w.drew _ hvw).trans hv);have hki:(n:Int)+1-(i:Int)=(k:Int):=oM;have hwi: -9223372036854775808≤(i:Int)+1∧(i:Int)+1≤9223372036854775807:=oM;have hwn: -9223372036854775808≤(n:Int)+1∧(n:Int)+1≤9223372036854775807:=oM;have hz2':¬((i:Int)=(n:Int)):=oM;have hz3:(c:Int)<(n:Int)+1:=oM;have hb1:(0:Int)≤(i:Int)+1:=oM;have hb5:(0:Int)≤(n:Int)+1:=oM;have hb0:(0:Int)≤(i:Int):=oM;have hin:i≤n:=oM;have hinI:(i:Int)≤(n:Int):=oM;have hicI:(i:Int)≤(c:Int):=oM;have htn:((i:Int)+1).toNat=i+1:=oM;have htm:((n:Int)+1).toNat=n+1:=oM;have hb3:(i:Int)≤(n:Int)+1:=oM;have hb6:(i:Int)+1≤(n:Int)+1:=oM;have hb4:¬(c=i):=oM;have hGi:¬(G=i):=oM;have hGi1:¬(G=i+1):=oM;have hGk:(n:Int)+1≤(G:Int):=oM;clear hcp1 hcp2 hA hz hR1s h1 h1v hR1 hR2 hcs hROW hRs hRt hRl hG hold holdl hk hzc hi0 hz0 hz1 hz2;have hw1:IntKind.i64.wrap ((i:Int)+1)=(i:Int)+1:=IntWalk.i64_in _ hwi;have hw2:IntKind.i64.wrap ((n:Int)+1)=(n:Int)+1:=IntWalk.i64_in _ hwn;have hw3:wrap64 ((i:Int)+1)=(i:Int)+1:=IntWalk.wrap64_in _ hwi;have hw4:wrap64 ((n:Int)+1)=(n:Int)+1:=IntWalk.wrap64_in _ hwn;have HGM:=hH hGm;have HRR:=hH (And.intro hR2s hR2t);clear hwi hwn hcm hki hGm hR2s hR2t hgw hvw;go_enter Tryz.func157,Tryz.ntmps157;go_wp2_with (first
  |(at_builtin;go_must (refine Lib.wpList_append_run _ rfl _ _ _ _ rfl _ _ rfl rfl _ _ (hrz _) ?_))
  |((with_reducible (show wpList _ _ _ (_::_) _ _));(refine Qef _ rfl (.tmp 43) (.tmp 44) 23 23 rfl _ _ rfl rfl (HC1.o _ HN.o HVN.o _ _) ?_)))
 go_region_law (refine Qfo rfl (.tmp 50) (.tmp 53) 23 23 rfl (.slice (some ⟨w.heap.size,(i+1) * 4,none⟩) (n-i) (G-(i+1))) (.slice (some ⟨g,i * 4,none⟩) (n-i) (c-i)) (by simp[Act.eval,Act.put]) (by simp[Act.eval,Act.put]) (HC2.o (((w.drew.alloc (.cells ROW 48)).setRow w.heap.size R1).drew) (setRow_heap _ w.heap.size ROW R1 _ _ HN.o) ((setRow_other _ w.heap.size g R1 hne2).trans HGN.o) 3 (G-(i+1)) (c-i)) ?_)
 all_goals go_wp2
 all_goals go_ret
 all_goals exact⟨G,rfl,hGn,HGM.o,R2,HRR.o.1,HRR.o.2,setRow_heap _ w.heap.size R1 R2 _ _ (setRow_heap _ w.heap.size ROW R1 _ _ HN.o),⟨rfl,rfl,rfl,sI,fun k hk _=>((setRow_other _ w.heap.size k R2 oM).trans (setRow_other _ w.heap.size k R1 oM)).trans (Qdu w.drew _ hk)⟩⟩
theorem Qvi {F:Nat→Prop} {w:World} {xs:List Value}:∀{l:List No},Qcu RNo 4 F w xs l→∀u∈xs,u.oneCell'=true
 | [],h,u,hu=>by
  have:xs=[]:=List.length_eq_zero_iff.1 (by simpa using h.1);subst this;simp at hu
 |x::l,h,u,hu=>by
  obtain⟨h1,h2⟩:=Qj0 h;rw[←List.take_append_drop 4 xs] at hu;rcases List.mem_append.1 hu with hu|hu
  ·exact Qei _ _ _ _ h1 u hu
  ·exact Qvi h2 u hu
theorem Qv7 {base:Nat} {F G:Nat→Prop} {w:World} {v:Value} {l:List No} {i vb:Nat} {te:TypeId} {x0 x1 x2 x3:Value} {x:No} (hown:OSl RNo 4 48 base F w v l) (hi:i≤l.length) (hl:l.length≤1000)
  (hv:w.heap[vb]?=some (.cells #[x0,x1,x2,x3] te (0,0))) (hx:RNo G w [x0,x1,x2,x3] x) (hG:∀k,G k→k<w.heap.size→F k∧some k≠v.ownBlock) (hvb:some vb≠v.ownBlock) (hFv:F vb) (hbase:base≤w.heap.size):
  Calls Tryz.prog 157 #[v,.int .i64 i,.slice (some ⟨vb,0,none⟩) 1 1] w fun e w'=>∃v',e= .returned v'∧OSl RNo 4 48 base F w' v' (l.take i++x::l.drop i)∧w.grownBy w' v.ownBlock∧(v'.ownBlock=v.ownBlock∨v'.ownBlock=some w.heap.size):=by
 have hvw:vb<w.heap.size:=(Array.getElem?_eq_some_iff.1 hv).1;have h1v:∀u∈[x0,x1,x2,x3],u.oneCell'=true:=Qei _ _ _ _ hx;have hone:RSl RNo 4 (fun k=>G k∨k=vb) w (.slice (some ⟨vb,0,none⟩) 1 1) [x]:=
  Qbe (o:=0) (xs:=[x0,x1,x2,x3]) (fun j u hj=>by rw[Nat.zero_add];exact Qb4 hv (by simpa using hj)) (Qbg rfl (gNo.more (fun k hk _=>Or.inl hk) hx)) (Or.inr rfl) hvw (Nat.le_refl _) mO
 by_cases hin:i=l.length
 ·subst hin;have e:l.take l.length++x::l.drop l.length=l++[x]:=sI;rw[e];obtain⟨i0,hi0,hz0,hz1,hz2⟩:=info_parts Qfg;have HJ:=hH hi0;have HZ0:=hH hz0;have HZ1:=hH hz1;have HZ2:=hH hz2;have HO:=hH hown;have HONE:=hH hone;have HGG:=hH (show∀k,(G k∨k=vb)→k<w.heap.size→F k∧some k≠v.ownBlock from fun k hk hlt=>hk.elim (fun h=>hG k h hlt) (fun h=>h▸⟨hFv,hvb⟩));have HL:=hH hl;have HB:=hH hbase;obtain⟨xs,hrow,hch⟩:=hown;rcases hrow.2 with⟨rfl,h0⟩|⟨g,c,cur,rfl,hb,hh,hnc,hcm,hcs,ht⟩
  ·obtain rfl:l=[]:=List.length_eq_zero_iff.1 h0;clear hrow hch h0 hi0 hz0 hz1 hz2 hone hvb hG hv hx hl hi hbase hvw;go_enter Tryz.func157,Tryz.ntmps157;go_wp2_with (at_builtin;go_must (refine Qaj gNo rfl (.tmp 23) (.tmp 24) 23 rfl base 48 i0 _ 4 64 Tryz.underlying23 HJ.o HZ0.o HZ1.o HZ2.o rfl oM (F:=F) (G:=fun k=>G k∨k=vb) (.slice none 0 0) [] rfl HO.o (.slice (some ⟨vb,0,none⟩) 1 1) [x] rfl HONE.o Qei HGG.o (Qfs HL.o) (Qj1 HL.o) HB.o ?_;intro v9 w9 hown9 hg9 hat9;obtain⟨a9,n9,c9,rfl⟩:=Qab hown9))
   go_ret;exact⟨_,rfl,hown9,hg9,hat9⟩
  ·have hcmI:l.length≤9223372036854775807:=oM;have hii:(0:Int)≤(l.length:Int):=Int.natCast_nonneg _;have hncI:(l.length:Int)≤(c:Int):=by exact_mod_cast hnc
   clear hrow hch hi0 hz0 hz1 hz2 hone hvb hG hv hx hi hbase hvw hh hcs ht hcm hb;go_enter Tryz.func157,Tryz.ntmps157;go_wp2_with (at_builtin;go_must (refine Qaj gNo rfl (.tmp 23) (.tmp 24) 23 rfl base 48 i0 _ 4 64 Tryz.underlying23 HJ.o HZ0.o HZ1.o HZ2.o rfl oM (F:=F) (G:=fun k=>G k∨k=vb) (.slice (some ⟨g,0,none⟩) l.length c) l rfl HO.o (.slice (some ⟨vb,0,none⟩) 1 1) [x] rfl HONE.o Qei HGG.o (Qfs HL.o) (Qj1 HL.o) HB.o ?_;intro v9 w9 hown9 hg9 hat9;obtain⟨a9,n9,c9,rfl⟩:=Qab hown9))
   all_goals go_ret
   all_goals exact⟨_,rfl,hown9,hg9,hat9⟩
 ·obtain⟨xs,hrow,hch⟩:=hown;have h1:=Qvi hch;rcases hrow.2 with⟨rfl,h0⟩|⟨g,c,cur,rfl,hb,hh,hnc,hcm,hcs,ht⟩
  ·omega
  ·have hne:vb≠g:=fun e=>hvb (congrArg some e)
   have hxl:l.take i++x::l.drop i=l.take i++[x]++l.drop i:=sI;have hcs':Qcu RNo 4 (fun k=>F k∧some k≠some g) w (xs.take (i * 4)++[x0,x1,x2,x3]++xs.drop (i * 4)) (l.take i++x::l.drop i):=by
    rw[hxl];exact Qcj (Qcj (Qfw hch hi) (Qbg rfl (gNo.more hG hx))) (Qfv hch hi)
   have hlen:(l.take i++x::l.drop i).length=l.length+1:=sP;subst ht;by_cases hroom:l.length+1≤c
   ·refine(Qr9 hh oM hroom (by unfold maxLen at hcm;omega) hcs hv hne h1 h1v hl).mono ?_;rintro e w' ⟨rfl,row,hrs,hrt,hrh,hgr⟩;refine⟨_,rfl,⟨_,⟨hcs'.1,.inr ⟨g,c,row,by rw[hlen],hb,hrh,by rw[hlen];exact hroom,hcm,hrs,by rw[hlen];exact hrt⟩⟩,?_⟩,hgr,.inl rfl⟩;exact Qbv gNo ⟨hgr.size,fun k hk hlt=>hgr.block k hlt hk.2⟩ hcs'
   ·refine(Qtx hh oM hnc oM (by unfold maxLen at hcm;omega) hcs hv h1 h1v hl).mono ?_;rintro e w' ⟨G',rfl,hG1,hG2,row,hrs,hrt,hrh,hgr⟩;refine⟨_,rfl,⟨_,⟨hcs'.1,.inr ⟨w.heap.size,G',row,by rw[hlen],hbase,hrh,by rw[hlen];exact hG1,hG2,hrs,by rw[hlen];exact hrt⟩⟩,?_⟩,⟨hgr.os,hgr.tape,hgr.output,hgr.size,fun k hlt _=>hgr.block k hlt sI⟩,.inr rfl⟩;exact Qbv gNo ⟨hgr.size,fun k hk hlt=>hgr.block k hlt sI⟩ (Qb7 gNo (fun k hk hlt=>⟨hk.1,fun e=>by(have e':k=w.heap.size:=(by simpa [Value.ownBlock] using e);omega)⟩) hcs')
theorem Qvq {w:World} {g n c i:Nat} {cur:Array Value} {i0:TypeInfo} (hi0:Tryz.prog.info? 48=some i0) (hz0:i0.zero=some (.agg #[.int .i64 0,.int .i64 0,.slice none 0 0,.slice none 0 0])) (hz1:i0.size=4) (hg:w.heap[g]?=some (.cells cur 48 (0,0))) (hi:i<n) (hnc:n≤c) (hcm:c≤9223372036854775807) (hcs:cur.size=c * 4)
  (h1:∀v∈cur.toList.take (n * 4),v.oneCell'=true) (hn3:n≤1000):
  Calls Tryz.prog 162 #[.slice (some ⟨g,0,none⟩) n c,.int .i64 i,.int .i64 ((i:Int)+1)] w fun e w'=>e= .returned (.slice (some ⟨g,0,none⟩) (n-1) c)∧
   ∃row:Array Value,row.size=c * 4∧row.toList.take ((n-1) * 4)=(cur.toList.take (n * 4)).take (i * 4)++(cur.toList.take (n * 4)).drop ((i+1) * 4)∧w'.heap[g]?=some (.cells row 48 (0,0))∧w.grownBy w' (some g):=by
 have hA:cur.toList.length=c * 4:=by simpa using hcs
 obtain⟨news,hnews⟩:∃news,news=(cur.toList.take (n * 4)).drop ((i+1) * 4):=⟨_,rfl⟩;have hnl:news.length=(n-(i+1)) * 4:=by rw[hnews,List.length_drop,List.length_take];omega
 have hn1:∀v∈news,v.oneCell'=true:=fun v hv=>h1 v (by rw[hnews] at hv;exact List.mem_of_mem_drop hv)
 have hnr:∀W:World,W.heap[g]?=some (.cells cur 48 (0,0))→∀j u,news[j]?=some u→W.cell? ⟨g,(i+1) * 4+j,none⟩=some u:=fun W hW j u hj=>by
  refine Qb4 hW ?_;rw[hnews,List.getElem?_drop,List.getElem?_take] at hj;split at hj
  ·exact hj
  ·cases hj
 obtain⟨R1,hR1⟩:∃R1:Array Value,R1=(cur.toList.take (i * 4)++news++cur.toList.drop (i * 4+news.length)).toArray:=⟨_,rfl⟩;have hfit:i * 4+news.length≤c * 4:=by rw[hnl];omega
 have hR1s:R1.size=c * 4:=by rw[hR1,List.size_toArray,Qcy oM];exact hA
 have hR1t:R1.toList.take ((n-1) * 4)=(cur.toList.take (n * 4)).take (i * 4)++(cur.toList.take (n * 4)).drop ((i+1) * 4):=by
  rw[hR1,List.toList_toArray,←hnews,List.take_take,Nat.min_eq_left oM];exact List.take_left' (by rw[List.length_append,List.length_take,hnl];omega)
 obtain⟨R2,hR2⟩:∃R2:Array Value,R2=(R1.toList.take ((n-1) * 4)++(Builtin.zeroCells (Value.agg #[.int .i64 0,.int .i64 0,.slice none 0 0,.slice none 0 0]).cells 1).toList++R1.toList.drop ((n-1) * 4+(Builtin.zeroCells (Value.agg #[.int .i64 0,.int .i64 0,.slice none 0 0,.slice none 0 0]).cells 1).toList.length)).toArray:=⟨_,rfl⟩;have hzl:(Builtin.zeroCells (Value.agg #[.int .i64 0,.int .i64 0,.slice none 0 0,.slice none 0 0]).cells 1).toList.length=4:=by rw[Qpr];rfl
 have hR1l:R1.toList.length=c * 4:=by simpa using hR1s
 have hR2s:R2.size=c * 4:=by rw[hR2,List.size_toArray,Qcy (by rw[hzl];omega)];exact hR1l
 have hR2t:R2.toList.take ((n-1) * 4)=(cur.toList.take (n * 4)).take (i * 4)++(cur.toList.take (n * 4)).drop ((i+1) * 4):=by
  rw[hR2,List.toList_toArray,List.append_assoc,List.take_left' (by rw[List.length_take];omega)];exact hR1t
 have hzv:∀w,(zeroValue 48).run Tryz.prog w= .ok (.agg #[.int .i64 0,.int .i64 0,.slice none 0 0,.slice none 0 0]) w:=fun w=>by simp[zeroValue,typeInfo,hi0,hz0]
 have hcl:∀(W:World),W.heap[g]?=some (.cells R1 48 (0,0))→∀ty cap',(Builtin.clear_ #[23] ty #[.slice (some ⟨g,(n-1) * 4,none⟩) 1 cap']).run Tryz.prog W= .ok (.tuple #[]) (W.setRow g R2):=fun W hW ty cap'=>by
  rw[hR2];exact Qq6 W _ ty _ _ g ((n-1) * 4) 1 cap' R1 48 Tryz.underlying23 hzv oM hW (by rw[hR1s];show(n-1) * 4+1 * 4≤c * 4;omega) (by intro v hv;simp[Value.cells] at hv;rcases hv with rfl|rfl|rfl|rfl<;>rfl)
 have hcl1:=hcl (w.drew.setRow g R1) (setRow_heap w.drew g cur R1 _ _ hg);have HG:=hH hg;have hin:i≤n:=oM;have hii0:(0:Int)≤(i:Int):=Int.natCast_nonneg i;have hii1:(0:Int)≤(i:Int)+1:=oM;have hii2:(i:Int)≤(i:Int)+1:=oM;have hii3:(i:Int)+1≤(n:Int):=oM;have hii4:(n:Int)≤(c:Int):=oM;have hii5:(i:Int)≤(c:Int):=oM;have hii6:¬((i:Int)=(i:Int)+1):=oM;have hii7:(i:Int)≤(n:Int):=oM;have hii8:((n-1:Nat):Int)≤(n:Int):=oM;have hii9:(0:Int)≤((n-1:Nat):Int):=Int.natCast_nonneg _;have htn:((i:Int)+1).toNat=i+1:=oM;have hsum:i+(n-(i+1))=n-1:=oM;have hsub:n-(n-1)=1:=oM;have hic:i≤c:=oM;have hic1:i+1≤c:=oM;have hn1c:n-1≤c:=oM;have hn1n:n-1≤n:=Nat.sub_le _ _;have hcn:¬c=n-1:=oM;by_cases hce:c=i+1
 ·have hm0:n-(i+1)=0:=oM;have hap:∀W:World,W.heap[g]?=some (.cells cur 48 (0,0))→∀ty c2,(Builtin.append_ #[23,23] ty #[.slice (some ⟨g,0,none⟩) i c,.slice (some ⟨g,0,none⟩) (n-(i+1)) c2]).run Tryz.prog W= .ok (.slice (some ⟨g,0,none⟩) (n-1) c) (W.setRow g R1):=fun W hW ty c2=>by
   have h9:=Qnt W 23 ty 48 i0 4 g 0 i c cur 48 ⟨g,0,none⟩ (n-(i+1)) c2 news Tryz.underlying23 hi0 hz1 hnl (fun j u hj=>by
    have:news=[]:=List.eq_nil_of_length_eq_zero (by rw[hnl,hm0]);rw[this] at hj;simp at hj) hn1 oM hW (by rw[hcs];omega)
   rw[h9,hsum,Nat.zero_add,hR1]
  have HAP:=hH hap;clear hap hcl hnr hn1 hR1t hR1s hR1l hzv hnl hfit hA hcs h1 hR1 hR2 hzl hnews hn3 hi0 hz0 hz1 hg hcm hm0;go_enter Tryz.func162,Tryz.ntmps162;go_wp2_with fail
  go_region_law (refine Qlo rfl (.tmp 22) (.tmp 25) 23 23 rfl (.slice (some ⟨g,0,none⟩) i c) (.slice (some ⟨g,0,none⟩) (n-(i+1)) (c-(i+1))) (by simp[Act.eval,Act.put]<;>omega) (by simp[Act.eval,Act.put, *]<;>omega) (HAP.o w.drew HG.o _ _) ?_)
  all_goals go_wp2_with fail
  all_goals go_ret
  all_goals exact⟨(by rw[hce]<;>rfl),R2,hR2s,hR2t,setRow_heap _ g R1 R2 _ _ (setRow_heap w.drew g cur R1 _ _ HG.o),⟨rfl,rfl,rfl,sI,fun k _ hk=>(setRow_other _ g k R2 (fun e=>hk (congrArg some e))).trans (setRow_other w.drew g k R1 (fun e=>hk (congrArg some e)))⟩⟩
 ·have hap:∀W:World,W.heap[g]?=some (.cells cur 48 (0,0))→∀ty c2,(Builtin.append_ #[23,23] ty #[.slice (some ⟨g,0,none⟩) i c,.slice (some ⟨g,(i+1) * 4,none⟩) (n-(i+1)) c2]).run Tryz.prog W= .ok (.slice (some ⟨g,0,none⟩) (n-1) c) (W.setRow g R1):=fun W hW ty c2=>by
   have h9:=Qnt W 23 ty 48 i0 4 g 0 i c cur 48 ⟨g,(i+1) * 4,none⟩ (n-(i+1)) c2 news Tryz.underlying23 hi0 hz1 hnl (fun j u hj=>by
    rw[Qcl];exact hnr W hW j u hj) hn1 oM hW (by rw[hcs];omega)
   rw[h9,hsum,Nat.zero_add,hR1]
  have HAP:=hH hap;clear hap hcl hnr hn1 hR1t hR1s hR1l hzv hnl hfit hA hcs h1 hR1 hR2 hzl hnews hn3 hi0 hz0 hz1 hg hcm;go_enter Tryz.func162,Tryz.ntmps162;go_wp2_with fail
  go_region_law (refine Qlo rfl (.tmp 22) (.tmp 25) 23 23 rfl (.slice (some ⟨g,0,none⟩) i c) (.slice (some ⟨g,(i+1) * 4,none⟩) (n-(i+1)) (c-(i+1))) (by simp[Act.eval,Act.put]) (by simp[Act.eval,Act.put, *]) (HAP.o w.drew HG.o _ _) ?_)
  all_goals go_wp2_with fail
  all_goals go_ret
  all_goals exact⟨rfl,R2,hR2s,hR2t,setRow_heap _ g R1 R2 _ _ (setRow_heap w.drew g cur R1 _ _ HG.o),⟨rfl,rfl,rfl,sI,fun k _ hk=>(setRow_other _ g k R2 (fun e=>hk (congrArg some e))).trans (setRow_other w.drew g k R1 (fun e=>hk (congrArg some e)))⟩⟩
theorem Qvr {base:Nat} {F:Nat→Prop} {w:World} {v:Value} {l:List No} {i:Nat} (hown:OSl RNo 4 48 base F w v l) (hi:i<l.length) (hl:l.length≤1000):
  Calls Tryz.prog 162 #[v,.int .i64 i,.int .i64 ((i:Int)+1)] w fun e w'=>∃v',e= .returned v'∧OSl RNo 4 48 base F w' v' (l.take i++l.drop (i+1))∧w.grownBy w' v.ownBlock∧v'.ownBlock=v.ownBlock:=by
 obtain⟨i0,hi0,hz0,hz1,hz2⟩:=info_parts Qfg;obtain⟨xs,hrow,hch⟩:=hown;have h1:=Qvi hch;rcases hrow.2 with⟨rfl,h0⟩|⟨g,c,cur,rfl,hb,hh,hnc,hcm,hcs,ht⟩
 ·omega
 ·subst ht;refine(Qvq hi0 hz0 hz1 hh hi hnc (by unfold maxLen at hcm;omega) hcs h1 hl).mono ?_;rintro e w' ⟨rfl,row,hrs,hrt,hrh,hgr⟩;have hlen:(l.take i++l.drop (i+1)).length=l.length-1:=sP;have hc2:=Qcj (Qfw hch (Nat.le_of_lt hi)) (Qfv hch (i:=i+1) hi);refine⟨_,rfl,⟨_,⟨hc2.1,.inr ⟨g,c,row,by rw[hlen],hb,hrh,by rw[hlen];omega,hcm,hrs,by rw[hlen];exact hrt⟩⟩,?_⟩,hgr,rfl⟩;exact Qbv gNo ⟨hgr.size,fun k hk hlt=>hgr.block k hlt hk.2⟩ hc2
end Go.Proofs.YtgnccjojfebkeaaGreat
