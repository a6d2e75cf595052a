/- slices.Insert, of one atom. -/
import Derived.Test.YtgnccjojfebkeaaGreatQed8dd0ae12
import Derived.Lib.Overlaps
import Derived.Lib.AppendZeros
import Derived.Lib.AppendZerosOnto
import Derived.Laws.CopyRow
import Derived.Laws.Externs
import Derived.Deep.RegionLaw
import Derived.Test.YtgnccjojfebkeaaGreatQ453a98ae2d
import Derived.Test.YtgnccjojfebkeaaGreatQb497ca1fba
set_option linter.unusedVariables false
set_option linter.unusedSimpArgs false
set_option maxRecDepth 100000
set_option maxHeartbeats 4000000
namespace Go.Proofs.YtgnccjojfebkeaaGreat
open Go Go.RowKit Go.BigFrame Cp
section
variable {P:Program}
theorem Qyf (w:World) {o:Oper} {a:Act} {K:Act→World→Prop} {Q:Exit→Act→World→Prop} (d s:Operand) (t t':TypeId)
  (ho:o.op= .call {callee:= .builtin .copy,args:=#[d,s],argTypes:=#[t,t']}) (v u:Value) (hd:a.eval d=v) (hs:a.eval s=u) {v':Value} {w':World}
  (hr:(Builtin.copy_ #[t,t'] o.type #[v,u]).run P w= .ok v' w') (h:K (a.put o.dst v') w'):o.wp P a w K Q:=by
 unfold Oper.wp execOp;simp only[ho,resolve,invoke,builtin,Sem.run_bind,Sem.run_pure,Result.andThen_ok,List.map_toArray,List.map_cons,List.map_nil,hd,hs,hr];exact h
theorem Qef (w:World) {ops:Array Oper} {rest:List Oper} {o:Oper} {a:Act} {Q:Exit→Act→World→Prop} (hgd:o.guard=none) (d s:Operand) (t t':TypeId)
  (ho:o.op= .call {callee:= .builtin .copy,args:=#[d,s],argTypes:=#[t,t']}) (v u:Value) (hd:a.eval d=v) (hs:a.eval s=u) {v':Value} {w':World}
  (hr:(Builtin.copy_ #[t,t'] o.type #[v,u]).run P w= .ok v' w') (h:wpList P ops Q rest (a.put o.dst v') w'):wpList P ops Q (o::rest) a w:=
 wpList_plain hgd fun _ hK=>Qyf w d s t t' ho v u hd hs hr (hK _ _ h)
theorem Qfo {ops:Array Oper} {o:Oper} {a:Act} {w:World} {K:Act→World→Prop} {Q:Exit→Act→World→Prop} {E:Prop}
  (hg:o.guard=none) (d s:Operand) (t t':TypeId) (ho:o.op= .call {callee:= .builtin .copy,args:=#[d,s],argTypes:=#[t,t']})
  (v u:Value) (hd:a.eval d=v) (hs:a.eval s=u) {v':Value} {w':World} (hr:(Builtin.copy_ #[t,t'] o.type #[v,u]).run P w= .ok v' w') (hK:K (a.put o.dst v') w'):
  if Region.wanted o (yielded ops a.tmps)=true then Oper.wp P o a w K Q else E:=by
 have hw:Region.wanted o (yielded ops a.tmps)=true:=by simp[Region.wanted,hg]
 rw[if_pos hw];exact Qyf w d s t t' ho v u hd hs hr hK
theorem Qdf (w:World) (dT sT ty elem:TypeId) (sz g o dLen dCap:Nat) (a:Addr) (sLen sCap:Nat) (cur:Array Value) (t:TypeId) (cs:List Value)
  (hu:P.underlying dT=some (.slice elem)) (hs:(P.info? elem).map (·.size)=some sz)
  (hg:w.heap[g]?=some (.cells cur t (0,0))) (hn:cs.length=Nat.min sLen dLen * sz)
  (hsrc:∀j v,cs[j]?=some v→w.cell? (a.add j)=some v) (hfit:o+cs.length≤cur.size) (h1:∀v∈cs,v.oneCell'=true):
  (Builtin.copy_ #[dT,sT] ty #[.slice (some ⟨g,o,none⟩) dLen dCap,.slice (some a) sLen sCap]).run P w=
   .ok (goInt (Nat.min sLen dLen)) (w.setRow g (cur.toList.take o++cs++cur.toList.drop (o+cs.length)).toArray):=by
 have hl:=run_loadCells_list (P:=P) w a cs hsrc;have hst:=run_storeCells_at P g o t cs 0 cur w hg (by simpa using hfit) h1;cases hq:P.info? elem with
 |none=>simp[hq] at hs
 |some i=>
  have hi:i.size=sz:=by simpa [hq] using hs
  simp[Builtin.copy_,run_underlying hu,Builtin.lenOf,Builtin.firstCells,sizeOf,typeInfo,hq,hi,←hn,hl,hst]
end
theorem Zay {p:Prop} (h:p:=by
 have e3:(A.take q).take p=A.take p:=by rw[List.take_take];congr 1;omega
 rw[e1,e2,e3,←List.append_assoc];exact List.take_left' (by simp only[List.length_append,List.length_take,List.length_drop,hy];omega)):p:=h
theorem Q3y {A ys:List Value} {p q r:Nat} (hr:r=p+3) (hy:ys.length=3) (h1:p≤q) (h2:q+3≤A.length):
  ((A.take r++(A.take q).drop p++A.drop (r+((A.take q).drop p).length)).take p++ys++(A.take r++(A.take q).drop p++A.drop (r+((A.take q).drop p).length)).drop (p+3)).take (q+3)=(A.take q).take p++ys++(A.take q).drop p:=by
 subst hr;have e1:(A.take (p+3)++(A.take q).drop p++A.drop (p+3+((A.take q).drop p).length)).take p=A.take p:=by
  rw[List.append_assoc,List.take_append_of_le_length (by rw[List.length_take];omega),List.take_take];congr 1;omega
 have e2:(A.take (p+3)++(A.take q).drop p++A.drop (p+3+((A.take q).drop p).length)).drop (p+3)=(A.take q).drop p++A.drop (p+3+((A.take q).drop p).length):=by
  rw[List.append_assoc];exact List.drop_left' (by rw[List.length_take];omega)
 exact Zay
theorem Q7a {A ys zs:List Value} {p r k:Nat} (hr:r=p+3) (hy:ys.length=3) (hk:k=r+zs.length) (h2:p+3+zs.length≤A.length):
  ((A.take p++ys++A.drop (p+ys.length)).take r++zs++(A.take p++ys++A.drop (p+ys.length)).drop (r+zs.length)).take k=A.take p++ys++zs:=by
 subst hr hk;have e1:(A.take p++ys++A.drop (p+ys.length)).take (p+3)=A.take p++ys:=List.take_left' (by rw[List.length_append,List.length_take];omega);rw[e1];exact List.take_left' (by simp only[List.length_append,List.length_take,hy];omega)
theorem Qcy {A ys:List Value} {p:Nat} (h:p+ys.length≤A.length):(A.take p++ys++A.drop (p+ys.length)).length=A.length:=by
 simp only[List.length_append,List.length_take,List.length_drop];omega
theorem Qb4 {w:World} {g:Nat} {cur:Array Value} {t:TypeId} (h:w.heap[g]?=some (.cells cur t (0,0))) {j:Nat} {v:Value} (hv:cur.toList[j]?=some v):w.cell? ⟨g,j,none⟩=some v:=by
 simpa [World.cell?,h] using hv
theorem Qen (w:World) (o:Obj):(w.alloc o).heap[w.heap.size]?=some o:=heap_alloc_new w o
theorem Qdu (w:World) (o:Obj) {r:Nat} (h:r<w.heap.size):(w.alloc o).heap[r]?=w.heap[r]?:=by
 first|exact heap_alloc_old w o h|exact heap_alloc_old w o r h
theorem Qhn:(Tryz.prog.info? 129).map (·.size)=some 3:=kR
theorem Qcl (g o j:Nat):(⟨g,o,none⟩:Addr).add j=⟨g,o+j,none⟩:=by
 unfold Addr.add;split<;>simp_all
theorem Vd6 {n i:Nat} (hi:i<n):((n-i) * 3=Nat.min (n+1-i) (n-i) * 3):=by
 congr 1
 simp only[Nat.min_def];split<;>omega
theorem Q8l {A:List Value} {i n:Nat} (hi:i<n) (h:n * 3≤A.length):((A.take (n * 3)).drop (i * 3)).length=(n-i) * 3:=by
 rw[List.length_drop,List.length_take];omega
theorem Qvh (w:World) (vb g o n c lb cb:Nat) {cur row:Array Value} {te tg:TypeId} (hv:w.heap[vb]?=some (.cells row te (0,0))) (hg:w.heap[g]?=some (.cells cur tg (0,0))) (h0:cur.size≠0) (hne:vb≠g):
  (callFunc 260 #[.slice (some ⟨vb,0,none⟩) n c,.slice (some ⟨g,o,none⟩) lb cb]).run Tryz.prog w= .ok (.value (.bool false)) w:=by
 rw[run_callFunc_extern Tryz.func260 kR kR kR (e:=Extern.SlicesOverlaps.overlaps #[39,39] #[4]) kR,
  Lib.run_overlaps_apart w 39 4 129 Tryz.underlying39 3 Tryz.sizeOf129 ⟨vb,0,none⟩ ⟨g,o,none⟩ n c lb cb hne te tg row.size cur.size (by simp[World.shape?,hv]) (by simp[World.shape?,hg]) h0 (by simp[World.frozen?,hv]) (by simp[World.frozen?,hv])]
 rfl
theorem Qty {w:World} {g n c i vb:Nat} {cur:Array Value} {te:TypeId} {x0 x1 x2:Value} (hg:w.heap[g]?=some (.cells cur 129 (0,0))) (hi:i<n) (hc:n+1≤c) (hcm:c≤9223372036854775807) (hcs:cur.size=c * 3)
  (hv:w.heap[vb]?=some (.cells #[x0,x1,x2] te (0,0))) (hne:vb≠g) (h1:∀v∈cur.toList.take (n * 3),v.oneCell'=true) (h1v:∀v∈[x0,x1,x2],v.oneCell'=true) (hn3:n≤1000):
  Calls Tryz.prog 257 #[.slice (some ⟨g,0,none⟩) n c,.int .i64 i,.slice (some ⟨vb,0,none⟩) 1 1] w fun e w'=>e= .returned (.slice (some ⟨g,0,none⟩) (n+1) c)∧
   ∃row:Array Value,row.size=c * 3∧row.toList.take ((n+1) * 3)=(cur.toList.take (n * 3)).take (i * 3)++[x0,x1,x2]++(cur.toList.take (n * 3)).drop (i * 3)∧w'.heap[g]?=some (.cells row 129 (0,0))∧w.grownBy w' (some g):=by
 have hA:cur.toList.length=c * 3:=by simpa using hcs
 have hz:=Q8l (A:=cur.toList) hi oM;obtain⟨R1,hR1⟩:∃R1:Array Value,R1=(cur.toList.take ((i+1) * 3)++(cur.toList.take (n * 3)).drop (i * 3)++cur.toList.drop ((i+1) * 3+((cur.toList.take (n * 3)).drop (i * 3)).length)).toArray:=⟨_,rfl⟩;have hR1s:R1.size=c * 3:=by rw[hR1,List.size_toArray,Qcy (by rw[hz];omega)];exact hA
 obtain⟨R2,hR2⟩:∃R2:Array Value,R2=(R1.toList.take (i * 3)++[x0,x1,x2]++R1.toList.drop (i * 3+[x0,x1,x2].length)).toArray:=⟨_,rfl⟩;have hR2s:R2.size=c * 3:=by rw[hR2,List.size_toArray,Qcy sP];simpa using hR1s
 have hR2t:R2.toList.take ((n+1) * 3)=(cur.toList.take (n * 3)).take (i * 3)++[x0,x1,x2]++(cur.toList.take (n * 3)).drop (i * 3):=by
  have hlen:[x0,x1,x2].length=3:=rfl;rw[hR2,List.toList_toArray,hR1,List.toList_toArray,hlen];have:=Q3y (A:=cur.toList) (ys:=[x0,x1,x2]) (p:=i * 3) (q:=n * 3) (r:=(i+1) * 3) oM rfl oM oM;rw[show(n+1) * 3=n * 3+3 by omega];exact this
 have hcp1:∀(W:World),W.heap[g]?=some (.cells cur 129 (0,0))→∀ty dc sc,(Builtin.copy_ #[39,39] ty #[.slice (some ⟨g,(i+1) * 3,none⟩) (n-i) dc,.slice (some ⟨g,i * 3,none⟩) (n+1-i) sc]).run Tryz.prog W= .ok (goInt (Nat.min (n+1-i) (n-i):Nat)) (W.setRow g R1):=fun W hW ty dc sc=>by
  rw[hR1];exact Qdf W _ _ ty _ 3 g _ _ dc ⟨g,i * 3,none⟩ _ sc cur _ _ Tryz.underlying39 Qhn hW (by rw[hz];exact Vd6 hi)
   (fun j v hj=>by
    rw[Qcl];refine Qb4 hW ?_;rw[List.getElem?_drop,List.getElem?_take] at hj;split at hj
    ·exact hj
    ·cases hj) (by rw[hz,hcs];omega) (fun v hv=>h1 v (List.mem_of_mem_drop hv))
 have hcp2:∀(W:World),W.heap[g]?=some (.cells R1 129 (0,0))→W.heap[vb]?=some (.cells #[x0,x1,x2] te (0,0))→∀ty dc,(Builtin.copy_ #[39,39] ty #[.slice (some ⟨g,i * 3,none⟩) (n+1-i) dc,.slice (some ⟨vb,0,none⟩) 1 1]).run Tryz.prog W= .ok (goInt (Nat.min 1 (n+1-i):Nat)) (W.setRow g R2):=fun W hW hWv ty dc=>by
  rw[hR2];exact Qdf W _ _ ty _ 3 g _ _ dc ⟨vb,0,none⟩ 1 1 R1 _ [x0,x1,x2] Tryz.underlying39 Qhn hW (by rw[show Nat.min 1 (n+1-i)=1 by simp only[Nat.min_def];split<;>omega];rfl)
   (fun j v hj=>by rw[Qcl,Nat.zero_add];exact Qb4 hWv (by simpa using hj)) (by rw[hR1s];simp;omega) h1v
 have hov:∀(W:World),W.heap[vb]?=some (.cells #[x0,x1,x2] te (0,0))→W.heap[g]?=some (.cells cur 129 (0,0))→∀o lb cb,(callFunc 260 #[.slice (some ⟨vb,0,none⟩) 1 1,.slice (some ⟨g,o,none⟩) lb cb]).run Tryz.prog W= .ok (.value (.bool false)) W:=fun W h1 h2 o lb cb=>Qvh W vb g o 1 1 lb cb h1 h2 oM hne
 have hov:=hov w hv hg;have HC1:=hH hcp1;have HC2:=hH hcp2;have HG:=hH hg;have HV:=hH hv;have hwi: -9223372036854775808≤(i:Int)+1∧(i:Int)+1≤9223372036854775807:=oM;have hwn: -9223372036854775808≤(n:Int)+1∧(n:Int)+1≤9223372036854775807:=oM;have hz2:¬((i:Int)=(n:Int)):=oM;have hz3:¬((c:Int)<(n:Int)+1):=oM;have hb1:(0:Int)≤(i:Int)+1:=oM;have hb5:(0:Int)≤(n:Int)+1:=oM;have hb0:(0:Int)≤(i:Int):=oM;have hin:i≤n:=oM;have hinI:(i:Int)≤(n:Int):=oM;have htn:((i:Int)+1).toNat=i+1:=oM;have htm:((n:Int)+1).toNat=n+1:=oM;have hb2:¬(c=i+1):=oM;have hb3:(i:Int)≤(n:Int)+1:=oM;have hb6:(i:Int)+1≤(n:Int)+1:=oM;have hb7:(n:Int)+1≤(c:Int):=oM;have hb4:¬(c=i):=oM;clear hcp1 hcp2 hA hz hR1s h1 h1v hR1 hR2 hcs;have hw1:IntKind.i64.wrap ((i:Int)+1)=(i:Int)+1:=IntWalk.i64_in _ hwi;have hw2:IntKind.i64.wrap ((n:Int)+1)=(n:Int)+1:=IntWalk.i64_in _ hwn;have hw3:wrap64 ((i:Int)+1)=(i:Int)+1:=IntWalk.wrap64_in _ hwi;have hw4:wrap64 ((n:Int)+1)=(n:Int)+1:=IntWalk.wrap64_in _ hwn;clear hwi hwn hcm;go_enter Tryz.func257,Tryz.ntmps257;go_wp2_with (simp only[hov])
 go_region_law (refine Qfo rfl (.tmp 73) (.tmp 76) 39 39 rfl (.slice (some ⟨g,(i+1) * 3,none⟩) (n-i) (c-(i+1))) (.slice (some ⟨g,i * 3,none⟩) (n+1-i) (c-i)) (by simp[Act.eval,Act.put]) (by simp[Act.eval,Act.put]) (HC1.o w.drew HG.o 3 (c-(i+1)) (c-i)) ?_)
 all_goals go_wp2_with ((with_reducible (show wpList _ _ _ (_::_) _ _));(refine Qef _ rfl (.tmp 80) (.tmp 81) 39 39 rfl _ _ rfl rfl (HC2.o _ (setRow_heap w.drew g cur R1 _ _ HG.o) ((setRow_other w.drew g vb R1 hne).trans HV.o) _ _) ?_))
 all_goals go_ret
 all_goals exact⟨rfl,R2,hR2s,hR2t,setRow_heap _ g R1 R2 _ _ (setRow_heap w.drew g cur R1 _ _ HG.o),⟨rfl,rfl,rfl,sI,fun k _ hk=>(setRow_other _ g k R2 (fun e=>hk (congrArg some e))).trans (setRow_other w.drew g k R1 (fun e=>hk (congrArg some e)))⟩⟩
theorem Qv8 {w:World} {g n c i vb:Nat} {cur:Array Value} {te:TypeId} {x0 x1 x2:Value} (hg:w.heap[g]?=some (.cells cur 129 (0,0))) (hi:i<n) (hnc:n≤c) (hc:c<n+1) (hcm:c≤9223372036854775807) (hcs:cur.size=c * 3)
  (hv:w.heap[vb]?=some (.cells #[x0,x1,x2] te (0,0))) (h1:∀v∈cur.toList.take (n * 3),v.oneCell'=true) (h1v:∀v∈[x0,x1,x2],v.oneCell'=true) (hn3:n≤1000):
  Calls Tryz.prog 257 #[.slice (some ⟨g,0,none⟩) n c,.int .i64 i,.slice (some ⟨vb,0,none⟩) 1 1] w fun e w'=>∃G,e= .returned (.slice (some ⟨w.heap.size,0,none⟩) (n+1) G)∧n+1≤G∧G≤maxLen∧
   ∃row:Array Value,row.size=G * 3∧row.toList.take ((n+1) * 3)=(cur.toList.take (n * 3)).take (i * 3)++[x0,x1,x2]++(cur.toList.take (n * 3)).drop (i * 3)∧w'.heap[w.heap.size]?=some (.cells row 129 (0,0))∧w.grownBy w' none:=by
 have hA:cur.toList.length=c * 3:=by simpa using hcs
 have hz:=Q8l (A:=cur.toList) hi oM;have hgw:g<w.heap.size:=(Array.getElem?_eq_some_iff.1 hg).1;have hvw:vb<w.heap.size:=(Array.getElem?_eq_some_iff.1 hv).1;obtain⟨i0,hi0,hz0,hz1,hz2⟩:=info_parts Qp5;obtain⟨k,hk⟩:∃k,n+1=i+k:=⟨n+1-i,oM⟩;have holdl:((cur.toList.take (n * 3)).take (i * 3)).length=i * 3:=by rw[List.length_take,List.length_take];omega
 have hold:(Builtin.firstCells i0.size i (.slice (some ⟨g,0,none⟩) i c)).run Tryz.prog w.drew= .ok ((cur.toList.take (n * 3)).take (i * 3)).toArray w.drew:=by
  rw[hz1];exact run_firstCells_some w.drew 3 i ⟨g,0,none⟩ i c ((cur.toList.take (n * 3)).take (i * 3)) holdl (fun j v hj=>by
   rw[Qcl,Nat.zero_add];refine Qb4 (w:=w.drew) hg ?_;rw[List.getElem?_take] at hj;split at hj
   ·rw[List.getElem?_take] at hj;split at hj
    ·exact hj
    ·cases hj
   ·cases hj)
 obtain⟨G,hG⟩:∃G,G=grownCap w (n+1) c 129:=⟨_,rfl⟩;have hGn:n+1≤G:=by rw[hG];exact grownCap_ge w _ _ _
 have hGm:G≤maxLen:=by rw[hG];exact grownCap_le_maxLen w _ _ _ mO
 obtain⟨ROW,hROW⟩:∃ROW:Array Value,ROW=((cur.toList.take (n * 3)).take (i * 3)).toArray++Builtin.zeroCells (Value.agg #[.slice none 0 0,.int .i64 0,.int .u8 0]).cells k++Builtin.zeroCells (Value.agg #[.slice none 0 0,.int .i64 0,.int .u8 0]).cells (G-(i+k)):=⟨_,rfl⟩;have hzc:(Value.agg #[.slice none 0 0,.int .i64 0,.int .u8 0]).cells.size=3:=by rfl
 have hRs:ROW.size=G * 3:=by
  rw[hROW,Array.size_append,Array.size_append,List.size_toArray,holdl];simp only[Builtin.zeroCells,Array.size_map,Array.size_range,hzc];omega
 have hRt:ROW.toList.take (i * 3)=(cur.toList.take (n * 3)).take (i * 3):=by
  rw[hROW,Array.toList_append,Array.toList_append,List.toList_toArray,List.append_assoc];exact List.take_left' holdl
 have hrz:∀ty,(Builtin.append_ #[39,3] ty #[.slice (some ⟨g,0,none⟩) i c,.int .i64 ((n:Int)+1-(i:Int))]).run Tryz.prog w=
   .ok (.slice (some ⟨w.heap.size,0,none⟩) (n+1) G) (w.drew.alloc (.cells ROW 129)):=fun ty=>by
  have h:=Lib.run_append_grow_zeros w 39 3 ty 129 i0 _ .i64 .i64 Tryz.underlying39 Tryz.underlying3 hi0 hz0 (some ⟨g,0,none⟩) i c _ hold k oM oM oM oM (by rw[hz2];omega) (by rw[hz2];exact growslice_fits oM oM);rw[hROW,hG,show(n:Int)+1-(i:Int)=(k:Int) by omega];rw[←hk] at h ⊢;exact h
 obtain⟨R1,hR1⟩:∃R1:Array Value,R1=(ROW.toList.take (i * 3)++[x0,x1,x2]++ROW.toList.drop (i * 3+[x0,x1,x2].length)).toArray:=⟨_,rfl⟩;have hRl:ROW.toList.length=G * 3:=by simpa using hRs
 have hR1s:R1.size=G * 3:=by rw[hR1,List.size_toArray,Qcy (by rw[hRl];simp;omega)];exact hRl
 obtain⟨R2,hR2⟩:∃R2:Array Value,R2=(R1.toList.take ((i+1) * 3)++(cur.toList.take (n * 3)).drop (i * 3)++R1.toList.drop ((i+1) * 3+((cur.toList.take (n * 3)).drop (i * 3)).length)).toArray:=⟨_,rfl⟩;have hR2s:R2.size=G * 3:=by rw[hR2,List.size_toArray,Qcy (by rw[hz];simp;omega)];simpa using hR1s
 have hR2t:R2.toList.take ((n+1) * 3)=(cur.toList.take (n * 3)).take (i * 3)++[x0,x1,x2]++(cur.toList.take (n * 3)).drop (i * 3):=by
  rw[hR2,List.toList_toArray,hR1,List.toList_toArray];have h9:=Q7a (A:=ROW.toList) (ys:=[x0,x1,x2]) (zs:=(cur.toList.take (n * 3)).drop (i * 3)) (p:=i * 3) (r:=(i+1) * 3) (k:=(n+1) * 3) oM rfl (by rw[hz];omega) (by rw[hz,hRl];omega);rw[hRt] at h9;rw[hRt];exact h9
 have hcp1:∀(W:World),W.heap[w.heap.size]?=some (.cells ROW 129 (0,0))→W.heap[vb]?=some (.cells #[x0,x1,x2] te (0,0))→∀ty dc,(Builtin.copy_ #[39,39] ty #[.slice (some ⟨w.heap.size,i * 3,none⟩) (n+1-i) dc,.slice (some ⟨vb,0,none⟩) 1 1]).run Tryz.prog W= .ok (goInt (Nat.min 1 (n+1-i):Nat)) (W.setRow w.heap.size R1):=fun W hW hWv ty dc=>by
  rw[hR1];exact Qdf W _ _ ty _ 3 w.heap.size _ _ dc ⟨vb,0,none⟩ 1 1 ROW _ [x0,x1,x2] Tryz.underlying39 Qhn hW (by rw[show Nat.min 1 (n+1-i)=1 by simp only[Nat.min_def];split<;>omega];rfl)
   (fun j v hj=>by rw[Qcl,Nat.zero_add];exact Qb4 hWv (by simpa using hj)) (by rw[hRs];simp;omega) h1v
 have hcp2:∀(W:World),W.heap[w.heap.size]?=some (.cells R1 129 (0,0))→W.heap[g]?=some (.cells cur 129 (0,0))→∀ty dc sc,(Builtin.copy_ #[39,39] ty #[.slice (some ⟨w.heap.size,(i+1) * 3,none⟩) (n-i) dc,.slice (some ⟨g,i * 3,none⟩) (n-i) sc]).run Tryz.prog W= .ok (goInt (Nat.min (n-i) (n-i):Nat)) (W.setRow w.heap.size R2):=fun W hW hWg ty dc sc=>by
  rw[hR2];exact Qdf W _ _ ty _ 3 w.heap.size _ _ dc ⟨g,i * 3,none⟩ _ sc R1 _ _ Tryz.underlying39 Qhn hW (by rw[hz];congr 1;exact(Nat.min_self _).symm)
   (fun j v hj=>by
    rw[Qcl];refine Qb4 hWg ?_;rw[List.getElem?_drop,List.getElem?_take] at hj;split at hj
    ·exact hj
    ·cases hj) (by rw[hz,hR1s];omega) (fun v hv=>h1 v (List.mem_of_mem_drop hv))
 have HC1:=hH hcp1;have HC2:=hH hcp2;have HG:=hH hg;have HV:=hH hv;have hne1:vb≠w.heap.size:=oM;have hne2:g≠w.heap.size:=oM;have HN:=hH (show(w.drew.alloc (.cells ROW 129)).heap[w.heap.size]?=some (.cells ROW 129 (0,0)) from Qen w.drew _);have HGN:=hH (show(w.drew.alloc (.cells ROW 129)).heap[g]?=some (.cells cur 129 (0,0)) from(Qdu w.drew _ hgw).trans hg);have HVN:=hH (show(w.drew.alloc (.cells ROW 129)).heap[vb]?=some (.cells #[x0,x1,x2] te (0,0)) from(Qdu w.drew _ hvw).trans hv);have hki:(n:Int)+1-(i:Int)=(k:Int):=oM;have hwi: -9223372036854775808≤(i:Int)+1∧(i:Int)+1≤9223372036854775807:=oM;have hwn: -9223372036854775808≤(n:Int)+1∧(n:Int)+1≤9223372036854775807:=oM;have hz2':¬((i:Int)=(n:Int)):=oM;have hz3:(c:Int)<(n:Int)+1:=oM;have hb1:(0:Int)≤(i:Int)+1:=oM;have hb5:(0:Int)≤(n:Int)+1:=oM;have hb0:(0:Int)≤(i:Int):=oM;have hin:i≤n:=oM;have hinI:(i:Int)≤(n:Int):=oM;have hicI:(i:Int)≤(c:Int):=oM;have htn:((i:Int)+1).toNat=i+1:=oM;have htm:((n:Int)+1).toNat=n+1:=oM;have hb3:(i:Int)≤(n:Int)+1:=oM;have hb6:(i:Int)+1≤(n:Int)+1:=oM;have hb4:¬(c=i):=oM;have hGi:¬(G=i):=oM;have hGi1:¬(G=i+1):=oM;have hGk:(n:Int)+1≤(G:Int):=oM;clear hcp1 hcp2 hA hz hR1s h1 h1v hR1 hR2 hcs hROW hRs hRt hRl hG hold holdl hk hzc hi0 hz0 hz1 hz2;have hw1:IntKind.i64.wrap ((i:Int)+1)=(i:Int)+1:=IntWalk.i64_in _ hwi;have hw2:IntKind.i64.wrap ((n:Int)+1)=(n:Int)+1:=IntWalk.i64_in _ hwn;have hw3:wrap64 ((i:Int)+1)=(i:Int)+1:=IntWalk.wrap64_in _ hwi;have hw4:wrap64 ((n:Int)+1)=(n:Int)+1:=IntWalk.wrap64_in _ hwn;have HGM:=hH hGm;have HRR:=hH (And.intro hR2s hR2t);clear hwi hwn hcm hki hGm hR2s hR2t hgw hvw;go_enter Tryz.func257,Tryz.ntmps257;go_wp2_with (first
  |(at_builtin;go_must (refine Lib.wpList_append_run _ rfl _ _ _ _ rfl _ _ rfl rfl _ _ (hrz _) ?_))
  |((with_reducible (show wpList _ _ _ (_::_) _ _));(refine Qef _ rfl (.tmp 43) (.tmp 44) 39 39 rfl _ _ rfl rfl (HC1.o _ HN.o HVN.o _ _) ?_)))
 go_region_law (refine Qfo rfl (.tmp 50) (.tmp 53) 39 39 rfl (.slice (some ⟨w.heap.size,(i+1) * 3,none⟩) (n-i) (G-(i+1))) (.slice (some ⟨g,i * 3,none⟩) (n-i) (c-i)) (by simp[Act.eval,Act.put]) (by simp[Act.eval,Act.put]) (HC2.o (((w.drew.alloc (.cells ROW 129)).setRow w.heap.size R1).drew) (setRow_heap _ w.heap.size ROW R1 _ _ HN.o) ((setRow_other _ w.heap.size g R1 hne2).trans HGN.o) 3 (G-(i+1)) (c-i)) ?_)
 all_goals go_wp2
 all_goals go_ret
 all_goals exact⟨G,rfl,hGn,HGM.o,R2,HRR.o.1,HRR.o.2,setRow_heap _ w.heap.size R1 R2 _ _ (setRow_heap _ w.heap.size ROW R1 _ _ HN.o),⟨rfl,rfl,rfl,sI,fun k hk _=>((setRow_other _ w.heap.size k R2 oM).trans (setRow_other _ w.heap.size k R1 oM)).trans (Qdu w.drew _ hk)⟩⟩
section
variable {α:Type} {R:Rd α} {sz:Nat} {F:Nat→Prop} {w:World} {xs:List Value} {l:List α}
theorem Qfw (h:Qcu R sz F w xs l) {i:Nat} (hi:i≤l.length):Qcu R sz F w (xs.take (i * sz)) (l.take i):=by
 have hle:i * sz≤xs.length:=by rw[h.1];exact Nat.mul_le_mul_right _ hi
 refine⟨by rw[List.length_take,List.length_take,Nat.min_eq_left hle,Nat.min_eq_left hi],fun j x hj=> ?_⟩;rw[List.getElem?_take] at hj;split at hj
 ·rename_i hlt
  have h2:=h.2 j x hj;have h3:(j+1) * sz≤i * sz:=Nat.mul_le_mul_right _ hlt;rw[Nat.add_mul,Nat.one_mul] at h3;rw[List.drop_take,List.take_take,Nat.min_eq_left oM];exact h2
 ·cases hj
theorem Qfv (h:Qcu R sz F w xs l) {i:Nat} (hi:i≤l.length):Qcu R sz F w (xs.drop (i * sz)) (l.drop i):=by
 refine⟨by rw[List.length_drop,List.length_drop,h.1,Nat.mul_sub_right_distrib],fun j x hj=> ?_⟩;rw[List.getElem?_drop] at hj;have h2:=h.2 (i+j) x hj;rw[List.drop_drop,←Nat.add_mul];exact h2
end
theorem Q05 {F:Nat→Prop} {w:World} {xs:List Value}:∀{l:List At},Qcu RAt 3 F w xs l→∀u∈xs,u.oneCell'=true
 | [],h,u,hu=>by
  have:xs=[]:=List.length_eq_zero_iff.1 (by simpa using h.1);subst this;simp at hu
 |x::l,h,u,hu=>by
  obtain⟨h1,h2⟩:=Qj0 h;rw[←List.take_append_drop 3 xs] at hu;rcases List.mem_append.1 hu with hu|hu
  ·exact Qe7 _ _ _ _ h1 u hu
  ·exact Q05 h2 u hu
theorem Qzc {base:Nat} {F G:Nat→Prop} {w:World} {v:Value} {l:List At} {i vb:Nat} {te:TypeId} {x0 x1 x2:Value} {x:At} (hown:OSl RAt 3 129 base F w v l) (hi:i≤l.length) (hl:l.length≤1000)
  (hv:w.heap[vb]?=some (.cells #[x0,x1,x2] te (0,0))) (hx:RAt G w [x0,x1,x2] x) (hG:∀k,G k→k<w.heap.size→F k∧some k≠v.ownBlock) (hvb:some vb≠v.ownBlock) (hFv:F vb) (hbase:base≤w.heap.size):
  Calls Tryz.prog 257 #[v,.int .i64 i,.slice (some ⟨vb,0,none⟩) 1 1] w fun e w'=>∃v',e= .returned v'∧OSl RAt 3 129 base F w' v' (l.take i++x::l.drop i)∧w.grownBy w' v.ownBlock∧(v'.ownBlock=v.ownBlock∨v'.ownBlock=some w.heap.size):=by
 have hvw:vb<w.heap.size:=(Array.getElem?_eq_some_iff.1 hv).1;have h1v:∀u∈[x0,x1,x2],u.oneCell'=true:=Qe7 _ _ _ _ hx;have hone:RSl RAt 3 (fun k=>G k∨k=vb) w (.slice (some ⟨vb,0,none⟩) 1 1) [x]:=
  Qbe (o:=0) (xs:=[x0,x1,x2]) (fun j u hj=>by rw[Nat.zero_add];exact Qb4 hv (by simpa using hj)) (Qbg rfl (gAt.more (fun k hk _=>Or.inl hk) hx)) (Or.inr rfl) hvw (Nat.le_refl _) mO
 by_cases hin:i=l.length
 ·subst hin;have e:l.take l.length++x::l.drop l.length=l++[x]:=sI;rw[e];obtain⟨i0,hi0,hz0,hz1,hz2⟩:=info_parts Qp5;have HJ:=hH hi0;have HZ0:=hH hz0;have HZ1:=hH hz1;have HZ2:=hH hz2;have HO:=hH hown;have HONE:=hH hone;have HGG:=hH (show∀k,(G k∨k=vb)→k<w.heap.size→F k∧some k≠v.ownBlock from fun k hk hlt=>hk.elim (fun h=>hG k h hlt) (fun h=>h▸⟨hFv,hvb⟩));have HL:=hH hl;have HB:=hH hbase;obtain⟨xs,hrow,hch⟩:=hown;rcases hrow.2 with⟨rfl,h0⟩|⟨g,c,cur,rfl,hb,hh,hnc,hcm,hcs,ht⟩
  ·obtain rfl:l=[]:=List.length_eq_zero_iff.1 h0;clear hrow hch h0 hi0 hz0 hz1 hz2 hone hvb hG hv hx hl hi hbase hvw;go_enter Tryz.func257,Tryz.ntmps257;go_wp2_with (at_builtin;go_must (refine Qaj gAt rfl (.tmp 23) (.tmp 24) 39 rfl base 129 i0 _ 3 40 Tryz.underlying39 HJ.o HZ0.o HZ1.o HZ2.o rfl oM (F:=F) (G:=fun k=>G k∨k=vb) (.slice none 0 0) [] rfl HO.o (.slice (some ⟨vb,0,none⟩) 1 1) [x] rfl HONE.o Qe7 HGG.o (Qfs HL.o) (Qn4 HL.o) HB.o ?_;intro v9 w9 hown9 hg9 hat9;obtain⟨a9,n9,c9,rfl⟩:=Qab hown9))
   go_ret;exact⟨_,rfl,hown9,hg9,hat9⟩
  ·have hcmI:l.length≤9223372036854775807:=oM;have hii:(0:Int)≤(l.length:Int):=Int.natCast_nonneg _;have hncI:(l.length:Int)≤(c:Int):=by exact_mod_cast hnc
   clear hrow hch hi0 hz0 hz1 hz2 hone hvb hG hv hx hi hbase hvw hh hcs ht hcm hb;go_enter Tryz.func257,Tryz.ntmps257;go_wp2_with (at_builtin;go_must (refine Qaj gAt rfl (.tmp 23) (.tmp 24) 39 rfl base 129 i0 _ 3 40 Tryz.underlying39 HJ.o HZ0.o HZ1.o HZ2.o rfl oM (F:=F) (G:=fun k=>G k∨k=vb) (.slice (some ⟨g,0,none⟩) l.length c) l rfl HO.o (.slice (some ⟨vb,0,none⟩) 1 1) [x] rfl HONE.o Qe7 HGG.o (Qfs HL.o) (Qn4 HL.o) HB.o ?_;intro v9 w9 hown9 hg9 hat9;obtain⟨a9,n9,c9,rfl⟩:=Qab hown9))
   all_goals go_ret
   all_goals exact⟨_,rfl,hown9,hg9,hat9⟩
 ·obtain⟨xs,hrow,hch⟩:=hown;have h1:=Q05 hch;rcases hrow.2 with⟨rfl,h0⟩|⟨g,c,cur,rfl,hb,hh,hnc,hcm,hcs,ht⟩
  ·omega
  ·have hne:vb≠g:=fun e=>hvb (congrArg some e)
   have hxl:l.take i++x::l.drop i=l.take i++[x]++l.drop i:=sI;have hcs':Qcu RAt 3 (fun k=>F k∧some k≠some g) w (xs.take (i * 3)++[x0,x1,x2]++xs.drop (i * 3)) (l.take i++x::l.drop i):=by
    rw[hxl];exact Qcj (Qcj (Qfw hch hi) (Qbg rfl (gAt.more hG hx))) (Qfv hch hi)
   have hlen:(l.take i++x::l.drop i).length=l.length+1:=sP;subst ht;by_cases hroom:l.length+1≤c
   ·refine(Qty hh oM hroom (by unfold maxLen at hcm;omega) hcs hv hne h1 h1v hl).mono ?_;rintro e w' ⟨rfl,row,hrs,hrt,hrh,hgr⟩;refine⟨_,rfl,⟨_,⟨hcs'.1,.inr ⟨g,c,row,by rw[hlen],hb,hrh,by rw[hlen];exact hroom,hcm,hrs,by rw[hlen];exact hrt⟩⟩,?_⟩,hgr,.inl rfl⟩;exact Qbv gAt ⟨hgr.size,fun k hk hlt=>hgr.block k hlt hk.2⟩ hcs'
   ·refine(Qv8 hh oM hnc oM (by unfold maxLen at hcm;omega) hcs hv h1 h1v hl).mono ?_;rintro e w' ⟨G',rfl,hG1,hG2,row,hrs,hrt,hrh,hgr⟩;refine⟨_,rfl,⟨_,⟨hcs'.1,.inr ⟨w.heap.size,G',row,by rw[hlen],hbase,hrh,by rw[hlen];exact hG1,hG2,hrs,by rw[hlen];exact hrt⟩⟩,?_⟩,⟨hgr.os,hgr.tape,hgr.output,hgr.size,fun k hlt _=>hgr.block k hlt sI⟩,.inr rfl⟩;exact Qbv gAt ⟨hgr.size,fun k hk hlt=>hgr.block k hlt sI⟩ (Qb7 gAt (fun k hk hlt=>⟨hk.1,fun e=>by(have e':k=w.heap.size:=(by simpa [Value.ownBlock] using e);omega)⟩) hcs')
section
variable {P:Program}
theorem Qpr (z:Array Value) (n:Nat):(Builtin.zeroCells z n).toList.length=n * z.size:=by simp[Builtin.zeroCells]
theorem Q4v {z:Array Value} {n:Nat} {v:Value} (h:v∈(Builtin.zeroCells z n).toList):v∈z.toList:=by
 simp only[Builtin.zeroCells,Array.toList_map,List.mem_map] at h;obtain⟨i,hi,rfl⟩:=h;have hi':i<n * z.size:=by simpa using hi
 have hz:0<z.size:=by
  rcases Nat.eq_zero_or_pos z.size with h0|h0
  ·rw[h0] at hi';omega
  ·exact h0
 rw[getElem!_pos z (i % z.size) (Nat.mod_lt _ hz)];simp
theorem Qq6 (w:World) (dT ty elem:TypeId) (z:Value) (g o n cap:Nat) (cur:Array Value) (t:TypeId) (hu:P.underlying dT=some (.slice elem)) (hv:∀w,(zeroValue elem).run P w= .ok z w) (hn:0<n)
  (hg:w.heap[g]?=some (.cells cur t (0,0))) (hfit:o+n * z.cells.size≤cur.size) (h1:∀v∈z.cells.toList,v.oneCell'=true):
  (Builtin.clear_ #[dT] ty #[.slice (some ⟨g,o,none⟩) n cap]).run P w= .ok (.tuple #[]) (w.setRow g (cur.toList.take o++(Builtin.zeroCells z.cells n).toList++cur.toList.drop (o+(Builtin.zeroCells z.cells n).toList.length)).toArray):=by
 obtain⟨zs,hz⟩:∃zs,zs=(Builtin.zeroCells z.cells n).toList:=⟨_,rfl⟩;have hl:zs.length=n * z.cells.size:=by rw[hz,Qpr]
 have hst:=run_storeCells_at P g o t zs 0 cur w hg (by simpa [hl] using hfit) (fun v hv=>h1 v (Q4v (by rw[←hz];exact hv)));obtain⟨m,rfl⟩:∃m,n=m+1:=⟨n-1,oM⟩;rw[←hz];simp[Builtin.clear_,run_underlying hu,hv,←hz,hst]
end
section
variable {P:Program}
theorem Qlo {ops:Array Oper} {o:Oper} {a:Act} {w:World} {K:Act→World→Prop} {Q:Exit→Act→World→Prop} {E:Prop}
  (hg:o.guard=none) (d s:Operand) (t t':TypeId) (ho:o.op= .call {callee:= .builtin .append,args:=#[d,s],argTypes:=#[t,t']})
  (v u:Value) (hd:a.eval d=v) (hs:a.eval s=u) {v':Value} {w':World} (hr:(Builtin.append_ #[t,t'] o.type #[v,u]).run P w= .ok v' w') (hK:K (a.put o.dst v') w'):
  if Region.wanted o (yielded ops a.tmps)=true then Oper.wp P o a w K Q else E:=by
 have hw:Region.wanted o (yielded ops a.tmps)=true:=by simp[Region.wanted,hg]
 rw[if_pos hw];unfold Oper.wp execOp;simp only[ho,resolve,invoke,builtin,Sem.run_bind,Sem.run_pure,Result.andThen_ok,List.map_toArray,List.map_cons,List.map_nil,hd,hs,hr];exact hK
theorem Qnt (w:World) (t ty e:TypeId) (i:TypeInfo) (sz g o n cap:Nat) (cur:Array Value) (te:TypeId) (a:Addr) (m c:Nat) (news:List Value) (ht:P.underlying t=some (.slice e)) (hi:P.info? e=some i) (hs:i.size=sz)
  (hl:news.length=m * sz) (hnews:∀j u,news[j]?=some u→w.cell? (a.add j)=some u) (h1:∀u∈news,u.oneCell'=true) (hroom:n+m≤cap) (hg:w.heap[g]?=some (.cells cur te (0,0))) (hfit:o+n * sz+news.length≤cur.size):
  (Builtin.append_ #[t,t] ty #[.slice (some ⟨g,o,none⟩) n cap,.slice (some a) m c]).run P w= .ok (.slice (some ⟨g,o,none⟩) (n+m) cap) (w.setRow g (cur.toList.take (o+n * sz)++news++cur.toList.drop (o+n * sz+news.length)).toArray):=by
 subst hs;have hfc:=run_firstCells_some (P:=P) w i.size m a m c news hl hnews;have hst:=run_storeCells_at P g (o+n * i.size) te news 0 cur w hg (by simpa using hfit) h1;simp only[Nat.add_zero] at hst;simp[Builtin.append_,run_underlying ht,sizeOf,typeInfo,hi,Builtin.lenOf,hroom,hfc,Addr.add_lit,hst]
end
theorem Qyt {w:World} {g n c i:Nat} {cur:Array Value} {i0:TypeInfo} (hi0:Tryz.prog.info? 129=some i0) (hz0:i0.zero=some (.agg #[.slice none 0 0,.int .i64 0,.int .u8 0])) (hz1:i0.size=3) (hg:w.heap[g]?=some (.cells cur 129 (0,0))) (hi:i<n) (hnc:n≤c) (hcm:c≤9223372036854775807) (hcs:cur.size=c * 3)
  (h1:∀v∈cur.toList.take (n * 3),v.oneCell'=true) (hn3:n≤1000):
  Calls Tryz.prog 249 #[.slice (some ⟨g,0,none⟩) n c,.int .i64 i,.int .i64 ((i:Int)+1)] w fun e w'=>e= .returned (.slice (some ⟨g,0,none⟩) (n-1) c)∧
   ∃row:Array Value,row.size=c * 3∧row.toList.take ((n-1) * 3)=(cur.toList.take (n * 3)).take (i * 3)++(cur.toList.take (n * 3)).drop ((i+1) * 3)∧w'.heap[g]?=some (.cells row 129 (0,0))∧w.grownBy w' (some g):=by
 have hA:cur.toList.length=c * 3:=by simpa using hcs
 obtain⟨news,hnews⟩:∃news,news=(cur.toList.take (n * 3)).drop ((i+1) * 3):=⟨_,rfl⟩;have hnl:news.length=(n-(i+1)) * 3:=by rw[hnews,List.length_drop,List.length_take];omega
 have hn1:∀v∈news,v.oneCell'=true:=fun v hv=>h1 v (by rw[hnews] at hv;exact List.mem_of_mem_drop hv)
 have hnr:∀W:World,W.heap[g]?=some (.cells cur 129 (0,0))→∀j u,news[j]?=some u→W.cell? ⟨g,(i+1) * 3+j,none⟩=some u:=fun W hW j u hj=>by
  refine Qb4 hW ?_;rw[hnews,List.getElem?_drop,List.getElem?_take] at hj;split at hj
  ·exact hj
  ·cases hj
 obtain⟨R1,hR1⟩:∃R1:Array Value,R1=(cur.toList.take (i * 3)++news++cur.toList.drop (i * 3+news.length)).toArray:=⟨_,rfl⟩;have hfit:i * 3+news.length≤c * 3:=by rw[hnl];omega
 have hR1s:R1.size=c * 3:=by rw[hR1,List.size_toArray,Qcy oM];exact hA
 have hR1t:R1.toList.take ((n-1) * 3)=(cur.toList.take (n * 3)).take (i * 3)++(cur.toList.take (n * 3)).drop ((i+1) * 3):=by
  rw[hR1,List.toList_toArray,←hnews,List.take_take,Nat.min_eq_left oM];exact List.take_left' (by rw[List.length_append,List.length_take,hnl];omega)
 obtain⟨R2,hR2⟩:∃R2:Array Value,R2=(R1.toList.take ((n-1) * 3)++(Builtin.zeroCells (Value.agg #[.slice none 0 0,.int .i64 0,.int .u8 0]).cells 1).toList++R1.toList.drop ((n-1) * 3+(Builtin.zeroCells (Value.agg #[.slice none 0 0,.int .i64 0,.int .u8 0]).cells 1).toList.length)).toArray:=⟨_,rfl⟩;have hzl:(Builtin.zeroCells (Value.agg #[.slice none 0 0,.int .i64 0,.int .u8 0]).cells 1).toList.length=3:=by rw[Qpr];rfl
 have hR1l:R1.toList.length=c * 3:=by simpa using hR1s
 have hR2s:R2.size=c * 3:=by rw[hR2,List.size_toArray,Qcy (by rw[hzl];omega)];exact hR1l
 have hR2t:R2.toList.take ((n-1) * 3)=(cur.toList.take (n * 3)).take (i * 3)++(cur.toList.take (n * 3)).drop ((i+1) * 3):=by
  rw[hR2,List.toList_toArray,List.append_assoc,List.take_left' (by rw[List.length_take];omega)];exact hR1t
 have hzv:∀w,(zeroValue 129).run Tryz.prog w= .ok (.agg #[.slice none 0 0,.int .i64 0,.int .u8 0]) w:=fun w=>by simp[zeroValue,typeInfo,hi0,hz0]
 have hcl:∀(W:World),W.heap[g]?=some (.cells R1 129 (0,0))→∀ty cap',(Builtin.clear_ #[39] ty #[.slice (some ⟨g,(n-1) * 3,none⟩) 1 cap']).run Tryz.prog W= .ok (.tuple #[]) (W.setRow g R2):=fun W hW ty cap'=>by
  rw[hR2];exact Qq6 W _ ty _ _ g ((n-1) * 3) 1 cap' R1 129 Tryz.underlying39 hzv oM hW (by rw[hR1s];show(n-1) * 3+1 * 3≤c * 3;omega) (by intro v hv;simp[Value.cells] at hv;rcases hv with rfl|rfl|rfl<;>rfl)
 have hcl1:=hcl (w.drew.setRow g R1) (setRow_heap w.drew g cur R1 _ _ hg);have HG:=hH hg;have hin:i≤n:=oM;have hii0:(0:Int)≤(i:Int):=Int.natCast_nonneg i;have hii1:(0:Int)≤(i:Int)+1:=oM;have hii2:(i:Int)≤(i:Int)+1:=oM;have hii3:(i:Int)+1≤(n:Int):=oM;have hii4:(n:Int)≤(c:Int):=oM;have hii5:(i:Int)≤(c:Int):=oM;have hii6:¬((i:Int)=(i:Int)+1):=oM;have hii7:(i:Int)≤(n:Int):=oM;have hii8:((n-1:Nat):Int)≤(n:Int):=oM;have hii9:(0:Int)≤((n-1:Nat):Int):=Int.natCast_nonneg _;have htn:((i:Int)+1).toNat=i+1:=oM;have hsum:i+(n-(i+1))=n-1:=oM;have hsub:n-(n-1)=1:=oM;have hic:i≤c:=oM;have hic1:i+1≤c:=oM;have hn1c:n-1≤c:=oM;have hn1n:n-1≤n:=Nat.sub_le _ _;have hcn:¬c=n-1:=oM;by_cases hce:c=i+1
 ·have hm0:n-(i+1)=0:=oM;have hap:∀W:World,W.heap[g]?=some (.cells cur 129 (0,0))→∀ty c2,(Builtin.append_ #[39,39] ty #[.slice (some ⟨g,0,none⟩) i c,.slice (some ⟨g,0,none⟩) (n-(i+1)) c2]).run Tryz.prog W= .ok (.slice (some ⟨g,0,none⟩) (n-1) c) (W.setRow g R1):=fun W hW ty c2=>by
   have h9:=Qnt W 39 ty 129 i0 3 g 0 i c cur 129 ⟨g,0,none⟩ (n-(i+1)) c2 news Tryz.underlying39 hi0 hz1 hnl (fun j u hj=>by
    have:news=[]:=List.eq_nil_of_length_eq_zero (by rw[hnl,hm0]);rw[this] at hj;simp at hj) hn1 oM hW (by rw[hcs];omega)
   rw[h9,hsum,Nat.zero_add,hR1]
  have HAP:=hH hap;clear hap hcl hnr hn1 hR1t hR1s hR1l hzv hnl hfit hA hcs h1 hR1 hR2 hzl hnews hn3 hi0 hz0 hz1 hg hcm hm0;go_enter Tryz.func249,Tryz.ntmps249;go_wp2_with fail
  go_region_law (refine Qlo rfl (.tmp 22) (.tmp 25) 39 39 rfl (.slice (some ⟨g,0,none⟩) i c) (.slice (some ⟨g,0,none⟩) (n-(i+1)) (c-(i+1))) (by simp[Act.eval,Act.put]<;>omega) (by simp[Act.eval,Act.put, *]<;>omega) (HAP.o w.drew HG.o _ _) ?_)
  all_goals go_wp2_with fail
  all_goals go_ret
  all_goals exact⟨(by rw[hce]<;>rfl),R2,hR2s,hR2t,setRow_heap _ g R1 R2 _ _ (setRow_heap w.drew g cur R1 _ _ HG.o),⟨rfl,rfl,rfl,sI,fun k _ hk=>(setRow_other _ g k R2 (fun e=>hk (congrArg some e))).trans (setRow_other w.drew g k R1 (fun e=>hk (congrArg some e)))⟩⟩
 ·have hap:∀W:World,W.heap[g]?=some (.cells cur 129 (0,0))→∀ty c2,(Builtin.append_ #[39,39] ty #[.slice (some ⟨g,0,none⟩) i c,.slice (some ⟨g,(i+1) * 3,none⟩) (n-(i+1)) c2]).run Tryz.prog W= .ok (.slice (some ⟨g,0,none⟩) (n-1) c) (W.setRow g R1):=fun W hW ty c2=>by
   have h9:=Qnt W 39 ty 129 i0 3 g 0 i c cur 129 ⟨g,(i+1) * 3,none⟩ (n-(i+1)) c2 news Tryz.underlying39 hi0 hz1 hnl (fun j u hj=>by
    rw[Qcl];exact hnr W hW j u hj) hn1 oM hW (by rw[hcs];omega)
   rw[h9,hsum,Nat.zero_add,hR1]
  have HAP:=hH hap;clear hap hcl hnr hn1 hR1t hR1s hR1l hzv hnl hfit hA hcs h1 hR1 hR2 hzl hnews hn3 hi0 hz0 hz1 hg hcm;go_enter Tryz.func249,Tryz.ntmps249;go_wp2_with fail
  go_region_law (refine Qlo rfl (.tmp 22) (.tmp 25) 39 39 rfl (.slice (some ⟨g,0,none⟩) i c) (.slice (some ⟨g,(i+1) * 3,none⟩) (n-(i+1)) (c-(i+1))) (by simp[Act.eval,Act.put]) (by simp[Act.eval,Act.put, *]) (HAP.o w.drew HG.o _ _) ?_)
  all_goals go_wp2_with fail
  all_goals go_ret
  all_goals exact⟨rfl,R2,hR2s,hR2t,setRow_heap _ g R1 R2 _ _ (setRow_heap w.drew g cur R1 _ _ HG.o),⟨rfl,rfl,rfl,sI,fun k _ hk=>(setRow_other _ g k R2 (fun e=>hk (congrArg some e))).trans (setRow_other w.drew g k R1 (fun e=>hk (congrArg some e)))⟩⟩
theorem Qmu {base:Nat} {F:Nat→Prop} {w:World} {v:Value} {l:List At} {i:Nat} (hown:OSl RAt 3 129 base F w v l) (hi:i<l.length) (hl:l.length≤1000):
  Calls Tryz.prog 249 #[v,.int .i64 i,.int .i64 ((i:Int)+1)] w fun e w'=>∃v',e= .returned v'∧OSl RAt 3 129 base F w' v' (l.take i++l.drop (i+1))∧w.grownBy w' v.ownBlock∧v'.ownBlock=v.ownBlock:=by
 obtain⟨i0,hi0,hz0,hz1,hz2⟩:=info_parts Qp5;obtain⟨xs,hrow,hch⟩:=hown;have h1:=Q05 hch;rcases hrow.2 with⟨rfl,h0⟩|⟨g,c,cur,rfl,hb,hh,hnc,hcm,hcs,ht⟩
 ·omega
 ·subst ht;refine(Qyt hi0 hz0 hz1 hh hi hnc (by unfold maxLen at hcm;omega) hcs h1 hl).mono ?_;rintro e w' ⟨rfl,row,hrs,hrt,hrh,hgr⟩;have hlen:(l.take i++l.drop (i+1)).length=l.length-1:=sP;have hc2:=Qcj (Qfw hch (Nat.le_of_lt hi)) (Qfv hch (i:=i+1) hi);refine⟨_,rfl,⟨_,⟨hc2.1,.inr ⟨g,c,row,by rw[hlen],hb,hrh,by rw[hlen];omega,hcm,hrs,by rw[hlen];exact hrt⟩⟩,?_⟩,hgr,rfl⟩;exact Qbv gAt ⟨hgr.size,fun k hk hlt=>hgr.block k hlt hk.2⟩ hc2
theorem Qz2 {A ys:List Value} {p q r:Nat} (hr:r=p+2) (hy:ys.length=2) (h1:p≤q) (h2:q+2≤A.length):
  ((A.take r++(A.take q).drop p++A.drop (r+((A.take q).drop p).length)).take p++ys++(A.take r++(A.take q).drop p++A.drop (r+((A.take q).drop p).length)).drop (p+2)).take (q+2)=(A.take q).take p++ys++(A.take q).drop p:=by
 subst hr;have e1:(A.take (p+2)++(A.take q).drop p++A.drop (p+2+((A.take q).drop p).length)).take p=A.take p:=by
  rw[List.append_assoc,List.take_append_of_le_length (by rw[List.length_take];omega),List.take_take];congr 1;omega
 have e2:(A.take (p+2)++(A.take q).drop p++A.drop (p+2+((A.take q).drop p).length)).drop (p+2)=(A.take q).drop p++A.drop (p+2+((A.take q).drop p).length):=by
  rw[List.append_assoc];exact List.drop_left' (by rw[List.length_take];omega)
 exact Zay
theorem Q3w {A ys zs:List Value} {p r k:Nat} (hr:r=p+2) (hy:ys.length=2) (hk:k=r+zs.length) (h2:p+2+zs.length≤A.length):
  ((A.take p++ys++A.drop (p+ys.length)).take r++zs++(A.take p++ys++A.drop (p+ys.length)).drop (r+zs.length)).take k=A.take p++ys++zs:=by
 subst hr hk;have e1:(A.take p++ys++A.drop (p+ys.length)).take (p+2)=A.take p++ys:=List.take_left' (by rw[List.length_append,List.length_take];omega);rw[e1];exact List.take_left' (by simp only[List.length_append,List.length_take,hy];omega)
theorem Qgb:(Tryz.prog.info? 103).map (·.size)=some 2:=kR
theorem Vde {n i:Nat} (hi:i<n):((n-i) * 2=Nat.min (n+1-i) (n-i) * 2):=by
 congr 1
 simp only[Nat.min_def];split<;>omega
theorem Q4w {A:List Value} {i n:Nat} (hi:i<n) (h:n * 2≤A.length):((A.take (n * 2)).drop (i * 2)).length=(n-i) * 2:=by
 rw[List.length_drop,List.length_take];omega
theorem Qs6 (w:World) (vb g o n c lb cb:Nat) {cur row:Array Value} {te tg:TypeId} (hv:w.heap[vb]?=some (.cells row te (0,0))) (hg:w.heap[g]?=some (.cells cur tg (0,0))) (h0:cur.size≠0) (hne:vb≠g):
  (callFunc 258 #[.slice (some ⟨vb,0,none⟩) n c,.slice (some ⟨g,o,none⟩) lb cb]).run Tryz.prog w= .ok (.value (.bool false)) w:=by
 rw[run_callFunc_extern Tryz.func258 kR kR kR (e:=Extern.SlicesOverlaps.overlaps #[40,40] #[4]) kR,
  Lib.run_overlaps_apart w 40 4 103 Tryz.underlying40 2 Tryz.sizeOf103 ⟨vb,0,none⟩ ⟨g,o,none⟩ n c lb cb hne te tg row.size cur.size (by simp[World.shape?,hv]) (by simp[World.shape?,hg]) h0 (by simp[World.frozen?,hv]) (by simp[World.frozen?,hv])]
 rfl
theorem Qr8 {w:World} {g n c i vb:Nat} {cur:Array Value} {te:TypeId} {x0 x1:Value} (hg:w.heap[g]?=some (.cells cur 103 (0,0))) (hi:i<n) (hc:n+1≤c) (hcm:c≤9223372036854775807) (hcs:cur.size=c * 2)
  (hv:w.heap[vb]?=some (.cells #[x0,x1] te (0,0))) (hne:vb≠g) (h1:∀v∈cur.toList.take (n * 2),v.oneCell'=true) (h1v:∀v∈[x0,x1],v.oneCell'=true) (hn3:n≤1000):
  Calls Tryz.prog 250 #[.slice (some ⟨g,0,none⟩) n c,.int .i64 i,.slice (some ⟨vb,0,none⟩) 1 1] w fun e w'=>e= .returned (.slice (some ⟨g,0,none⟩) (n+1) c)∧
   ∃row:Array Value,row.size=c * 2∧row.toList.take ((n+1) * 2)=(cur.toList.take (n * 2)).take (i * 2)++[x0,x1]++(cur.toList.take (n * 2)).drop (i * 2)∧w'.heap[g]?=some (.cells row 103 (0,0))∧w.grownBy w' (some g):=by
 have hA:cur.toList.length=c * 2:=by simpa using hcs
 have hz:=Q4w (A:=cur.toList) hi oM;obtain⟨R1,hR1⟩:∃R1:Array Value,R1=(cur.toList.take ((i+1) * 2)++(cur.toList.take (n * 2)).drop (i * 2)++cur.toList.drop ((i+1) * 2+((cur.toList.take (n * 2)).drop (i * 2)).length)).toArray:=⟨_,rfl⟩;have hR1s:R1.size=c * 2:=by rw[hR1,List.size_toArray,Qcy (by rw[hz];omega)];exact hA
 obtain⟨R2,hR2⟩:∃R2:Array Value,R2=(R1.toList.take (i * 2)++[x0,x1]++R1.toList.drop (i * 2+[x0,x1].length)).toArray:=⟨_,rfl⟩;have hR2s:R2.size=c * 2:=by rw[hR2,List.size_toArray,Qcy sP];simpa using hR1s
 have hR2t:R2.toList.take ((n+1) * 2)=(cur.toList.take (n * 2)).take (i * 2)++[x0,x1]++(cur.toList.take (n * 2)).drop (i * 2):=by
  have hlen:[x0,x1].length=2:=rfl;rw[hR2,List.toList_toArray,hR1,List.toList_toArray,hlen];have:=Qz2 (A:=cur.toList) (ys:=[x0,x1]) (p:=i * 2) (q:=n * 2) (r:=(i+1) * 2) oM rfl oM oM;rw[show(n+1) * 2=n * 2+2 by omega];exact this
 have hcp1:∀(W:World),W.heap[g]?=some (.cells cur 103 (0,0))→∀ty dc sc,(Builtin.copy_ #[40,40] ty #[.slice (some ⟨g,(i+1) * 2,none⟩) (n-i) dc,.slice (some ⟨g,i * 2,none⟩) (n+1-i) sc]).run Tryz.prog W= .ok (goInt (Nat.min (n+1-i) (n-i):Nat)) (W.setRow g R1):=fun W hW ty dc sc=>by
  rw[hR1];exact Qdf W _ _ ty _ 2 g _ _ dc ⟨g,i * 2,none⟩ _ sc cur _ _ Tryz.underlying40 Qgb hW (by rw[hz];exact Vde hi)
   (fun j v hj=>by
    rw[Qcl];refine Qb4 hW ?_;rw[List.getElem?_drop,List.getElem?_take] at hj;split at hj
    ·exact hj
    ·cases hj) (by rw[hz,hcs];omega) (fun v hv=>h1 v (List.mem_of_mem_drop hv))
 have hcp2:∀(W:World),W.heap[g]?=some (.cells R1 103 (0,0))→W.heap[vb]?=some (.cells #[x0,x1] te (0,0))→∀ty dc,(Builtin.copy_ #[40,40] ty #[.slice (some ⟨g,i * 2,none⟩) (n+1-i) dc,.slice (some ⟨vb,0,none⟩) 1 1]).run Tryz.prog W= .ok (goInt (Nat.min 1 (n+1-i):Nat)) (W.setRow g R2):=fun W hW hWv ty dc=>by
  rw[hR2];exact Qdf W _ _ ty _ 2 g _ _ dc ⟨vb,0,none⟩ 1 1 R1 _ [x0,x1] Tryz.underlying40 Qgb hW (by rw[show Nat.min 1 (n+1-i)=1 by simp only[Nat.min_def];split<;>omega];rfl)
   (fun j v hj=>by rw[Qcl,Nat.zero_add];exact Qb4 hWv (by simpa using hj)) (by rw[hR1s];simp;omega) h1v
 have hov:∀(W:World),W.heap[vb]?=some (.cells #[x0,x1] te (0,0))→W.heap[g]?=some (.cells cur 103 (0,0))→∀o lb cb,(callFunc 258 #[.slice (some ⟨vb,0,none⟩) 1 1,.slice (some ⟨g,o,none⟩) lb cb]).run Tryz.prog W= .ok (.value (.bool false)) W:=fun W h1 h2 o lb cb=>Qs6 W vb g o 1 1 lb cb h1 h2 oM hne
 have hov:=hov w hv hg;have HC1:=hH hcp1;have HC2:=hH hcp2;have HG:=hH hg;have HV:=hH hv;have hwi: -9223372036854775808≤(i:Int)+1∧(i:Int)+1≤9223372036854775807:=oM;have hwn: -9223372036854775808≤(n:Int)+1∧(n:Int)+1≤9223372036854775807:=oM;have hz2:¬((i:Int)=(n:Int)):=oM;have hz3:¬((c:Int)<(n:Int)+1):=oM;have hb1:(0:Int)≤(i:Int)+1:=oM;have hb5:(0:Int)≤(n:Int)+1:=oM;have hb0:(0:Int)≤(i:Int):=oM;have hin:i≤n:=oM;have hinI:(i:Int)≤(n:Int):=oM;have htn:((i:Int)+1).toNat=i+1:=oM;have htm:((n:Int)+1).toNat=n+1:=oM;have hb2:¬(c=i+1):=oM;have hb3:(i:Int)≤(n:Int)+1:=oM;have hb6:(i:Int)+1≤(n:Int)+1:=oM;have hb7:(n:Int)+1≤(c:Int):=oM;have hb4:¬(c=i):=oM;clear hcp1 hcp2 hA hz hR1s h1 h1v hR1 hR2 hcs;have hw1:IntKind.i64.wrap ((i:Int)+1)=(i:Int)+1:=IntWalk.i64_in _ hwi;have hw2:IntKind.i64.wrap ((n:Int)+1)=(n:Int)+1:=IntWalk.i64_in _ hwn;have hw3:wrap64 ((i:Int)+1)=(i:Int)+1:=IntWalk.wrap64_in _ hwi;have hw4:wrap64 ((n:Int)+1)=(n:Int)+1:=IntWalk.wrap64_in _ hwn;clear hwi hwn hcm;go_enter Tryz.func250,Tryz.ntmps250;go_wp2_with (simp only[hov])
 go_region_law (refine Qfo rfl (.tmp 73) (.tmp 76) 40 40 rfl (.slice (some ⟨g,(i+1) * 2,none⟩) (n-i) (c-(i+1))) (.slice (some ⟨g,i * 2,none⟩) (n+1-i) (c-i)) (by simp[Act.eval,Act.put]) (by simp[Act.eval,Act.put]) (HC1.o w.drew HG.o 3 (c-(i+1)) (c-i)) ?_)
 all_goals go_wp2_with ((with_reducible (show wpList _ _ _ (_::_) _ _));(refine Qef _ rfl (.tmp 80) (.tmp 81) 40 40 rfl _ _ rfl rfl (HC2.o _ (setRow_heap w.drew g cur R1 _ _ HG.o) ((setRow_other w.drew g vb R1 hne).trans HV.o) _ _) ?_))
 all_goals go_ret
 all_goals exact⟨rfl,R2,hR2s,hR2t,setRow_heap _ g R1 R2 _ _ (setRow_heap w.drew g cur R1 _ _ HG.o),⟨rfl,rfl,rfl,sI,fun k _ hk=>(setRow_other _ g k R2 (fun e=>hk (congrArg some e))).trans (setRow_other w.drew g k R1 (fun e=>hk (congrArg some e)))⟩⟩
theorem Qtw {w:World} {g n c i vb:Nat} {cur:Array Value} {te:TypeId} {x0 x1:Value} (hg:w.heap[g]?=some (.cells cur 103 (0,0))) (hi:i<n) (hnc:n≤c) (hc:c<n+1) (hcm:c≤9223372036854775807) (hcs:cur.size=c * 2)
  (hv:w.heap[vb]?=some (.cells #[x0,x1] te (0,0))) (h1:∀v∈cur.toList.take (n * 2),v.oneCell'=true) (h1v:∀v∈[x0,x1],v.oneCell'=true) (hn3:n≤1000):
  Calls Tryz.prog 250 #[.slice (some ⟨g,0,none⟩) n c,.int .i64 i,.slice (some ⟨vb,0,none⟩) 1 1] w fun e w'=>∃G,e= .returned (.slice (some ⟨w.heap.size,0,none⟩) (n+1) G)∧n+1≤G∧G≤maxLen∧
   ∃row:Array Value,row.size=G * 2∧row.toList.take ((n+1) * 2)=(cur.toList.take (n * 2)).take (i * 2)++[x0,x1]++(cur.toList.take (n * 2)).drop (i * 2)∧w'.heap[w.heap.size]?=some (.cells row 103 (0,0))∧w.grownBy w' none:=by
 have hA:cur.toList.length=c * 2:=by simpa using hcs
 have hz:=Q4w (A:=cur.toList) hi oM;have hgw:g<w.heap.size:=(Array.getElem?_eq_some_iff.1 hg).1;have hvw:vb<w.heap.size:=(Array.getElem?_eq_some_iff.1 hv).1;obtain⟨i0,hi0,hz0,hz1,hz2⟩:=info_parts Ql3;obtain⟨k,hk⟩:∃k,n+1=i+k:=⟨n+1-i,oM⟩;have holdl:((cur.toList.take (n * 2)).take (i * 2)).length=i * 2:=by rw[List.length_take,List.length_take];omega
 have hold:(Builtin.firstCells i0.size i (.slice (some ⟨g,0,none⟩) i c)).run Tryz.prog w.drew= .ok ((cur.toList.take (n * 2)).take (i * 2)).toArray w.drew:=by
  rw[hz1];exact run_firstCells_some w.drew 2 i ⟨g,0,none⟩ i c ((cur.toList.take (n * 2)).take (i * 2)) holdl (fun j v hj=>by
   rw[Qcl,Nat.zero_add];refine Qb4 (w:=w.drew) hg ?_;rw[List.getElem?_take] at hj;split at hj
   ·rw[List.getElem?_take] at hj;split at hj
    ·exact hj
    ·cases hj
   ·cases hj)
 obtain⟨G,hG⟩:∃G,G=grownCap w (n+1) c 103:=⟨_,rfl⟩;have hGn:n+1≤G:=by rw[hG];exact grownCap_ge w _ _ _
 have hGm:G≤maxLen:=by rw[hG];exact grownCap_le_maxLen w _ _ _ mO
 obtain⟨ROW,hROW⟩:∃ROW:Array Value,ROW=((cur.toList.take (n * 2)).take (i * 2)).toArray++Builtin.zeroCells (Value.agg #[.slice none 0 0,.int .i64 0]).cells k++Builtin.zeroCells (Value.agg #[.slice none 0 0,.int .i64 0]).cells (G-(i+k)):=⟨_,rfl⟩;have hzc:(Value.agg #[.slice none 0 0,.int .i64 0]).cells.size=2:=by rfl
 have hRs:ROW.size=G * 2:=by
  rw[hROW,Array.size_append,Array.size_append,List.size_toArray,holdl];simp only[Builtin.zeroCells,Array.size_map,Array.size_range,hzc];omega
 have hRt:ROW.toList.take (i * 2)=(cur.toList.take (n * 2)).take (i * 2):=by
  rw[hROW,Array.toList_append,Array.toList_append,List.toList_toArray,List.append_assoc];exact List.take_left' holdl
 have hrz:∀ty,(Builtin.append_ #[40,3] ty #[.slice (some ⟨g,0,none⟩) i c,.int .i64 ((n:Int)+1-(i:Int))]).run Tryz.prog w=
   .ok (.slice (some ⟨w.heap.size,0,none⟩) (n+1) G) (w.drew.alloc (.cells ROW 103)):=fun ty=>by
  have h:=Lib.run_append_grow_zeros w 40 3 ty 103 i0 _ .i64 .i64 Tryz.underlying40 Tryz.underlying3 hi0 hz0 (some ⟨g,0,none⟩) i c _ hold k oM oM oM oM (by rw[hz2];omega) (by rw[hz2];exact growslice_fits oM oM);rw[hROW,hG,show(n:Int)+1-(i:Int)=(k:Int) by omega];rw[←hk] at h ⊢;exact h
 obtain⟨R1,hR1⟩:∃R1:Array Value,R1=(ROW.toList.take (i * 2)++[x0,x1]++ROW.toList.drop (i * 2+[x0,x1].length)).toArray:=⟨_,rfl⟩;have hRl:ROW.toList.length=G * 2:=by simpa using hRs
 have hR1s:R1.size=G * 2:=by rw[hR1,List.size_toArray,Qcy (by rw[hRl];simp;omega)];exact hRl
 obtain⟨R2,hR2⟩:∃R2:Array Value,R2=(R1.toList.take ((i+1) * 2)++(cur.toList.take (n * 2)).drop (i * 2)++R1.toList.drop ((i+1) * 2+((cur.toList.take (n * 2)).drop (i * 2)).length)).toArray:=⟨_,rfl⟩;have hR2s:R2.size=G * 2:=by rw[hR2,List.size_toArray,Qcy (by rw[hz];simp;omega)];simpa using hR1s
 have hR2t:R2.toList.take ((n+1) * 2)=(cur.toList.take (n * 2)).take (i * 2)++[x0,x1]++(cur.toList.take (n * 2)).drop (i * 2):=by
  rw[hR2,List.toList_toArray,hR1,List.toList_toArray];have h9:=Q3w (A:=ROW.toList) (ys:=[x0,x1]) (zs:=(cur.toList.take (n * 2)).drop (i * 2)) (p:=i * 2) (r:=(i+1) * 2) (k:=(n+1) * 2) oM rfl (by rw[hz];omega) (by rw[hz,hRl];omega);rw[hRt] at h9;rw[hRt];exact h9
 have hcp1:∀(W:World),W.heap[w.heap.size]?=some (.cells ROW 103 (0,0))→W.heap[vb]?=some (.cells #[x0,x1] te (0,0))→∀ty dc,(Builtin.copy_ #[40,40] ty #[.slice (some ⟨w.heap.size,i * 2,none⟩) (n+1-i) dc,.slice (some ⟨vb,0,none⟩) 1 1]).run Tryz.prog W= .ok (goInt (Nat.min 1 (n+1-i):Nat)) (W.setRow w.heap.size R1):=fun W hW hWv ty dc=>by
  rw[hR1];exact Qdf W _ _ ty _ 2 w.heap.size _ _ dc ⟨vb,0,none⟩ 1 1 ROW _ [x0,x1] Tryz.underlying40 Qgb hW (by rw[show Nat.min 1 (n+1-i)=1 by simp only[Nat.min_def];split<;>omega];rfl)
   (fun j v hj=>by rw[Qcl,Nat.zero_add];exact Qb4 hWv (by simpa using hj)) (by rw[hRs];simp;omega) h1v
 have hcp2:∀(W:World),W.heap[w.heap.size]?=some (.cells R1 103 (0,0))→W.heap[g]?=some (.cells cur 103 (0,0))→∀ty dc sc,(Builtin.copy_ #[40,40] ty #[.slice (some ⟨w.heap.size,(i+1) * 2,none⟩) (n-i) dc,.slice (some ⟨g,i * 2,none⟩) (n-i) sc]).run Tryz.prog W= .ok (goInt (Nat.min (n-i) (n-i):Nat)) (W.setRow w.heap.size R2):=fun W hW hWg ty dc sc=>by
  rw[hR2];exact Qdf W _ _ ty _ 2 w.heap.size _ _ dc ⟨g,i * 2,none⟩ _ sc R1 _ _ Tryz.underlying40 Qgb hW (by rw[hz];congr 1;exact(Nat.min_self _).symm)
   (fun j v hj=>by
    rw[Qcl];refine Qb4 hWg ?_;rw[List.getElem?_drop,List.getElem?_take] at hj;split at hj
    ·exact hj
    ·cases hj) (by rw[hz,hR1s];omega) (fun v hv=>h1 v (List.mem_of_mem_drop hv))
 have HC1:=hH hcp1;have HC2:=hH hcp2;have HG:=hH hg;have HV:=hH hv;have hne1:vb≠w.heap.size:=oM;have hne2:g≠w.heap.size:=oM;have HN:=hH (show(w.drew.alloc (.cells ROW 103)).heap[w.heap.size]?=some (.cells ROW 103 (0,0)) from Qen w.drew _);have HGN:=hH (show(w.drew.alloc (.cells ROW 103)).heap[g]?=some (.cells cur 103 (0,0)) from(Qdu w.drew _ hgw).trans hg);have HVN:=hH (show(w.drew.alloc (.cells ROW 103)).heap[vb]?=some (.cells #[x0,x1] te (0,0)) from(Qdu w.drew _ hvw).trans hv);have hki:(n:Int)+1-(i:Int)=(k:Int):=oM;have hwi: -9223372036854775808≤(i:Int)+1∧(i:Int)+1≤9223372036854775807:=oM;have hwn: -9223372036854775808≤(n:Int)+1∧(n:Int)+1≤9223372036854775807:=oM;have hz2':¬((i:Int)=(n:Int)):=oM;have hz3:(c:Int)<(n:Int)+1:=oM;have hb1:(0:Int)≤(i:Int)+1:=oM;have hb5:(0:Int)≤(n:Int)+1:=oM;have hb0:(0:Int)≤(i:Int):=oM;have hin:i≤n:=oM;have hinI:(i:Int)≤(n:Int):=oM;have hicI:(i:Int)≤(c:Int):=oM;have htn:((i:Int)+1).toNat=i+1:=oM;have htm:((n:Int)+1).toNat=n+1:=oM;have hb3:(i:Int)≤(n:Int)+1:=oM;have hb6:(i:Int)+1≤(n:Int)+1:=oM;have hb4:¬(c=i):=oM;have hGi:¬(G=i):=oM;have hGi1:¬(G=i+1):=oM;have hGk:(n:Int)+1≤(G:Int):=oM;clear hcp1 hcp2 hA hz hR1s h1 h1v hR1 hR2 hcs hROW hRs hRt hRl hG hold holdl hk hzc hi0 hz0 hz1 hz2;have hw1:IntKind.i64.wrap ((i:Int)+1)=(i:Int)+1:=IntWalk.i64_in _ hwi;have hw2:IntKind.i64.wrap ((n:Int)+1)=(n:Int)+1:=IntWalk.i64_in _ hwn;have hw3:wrap64 ((i:Int)+1)=(i:Int)+1:=IntWalk.wrap64_in _ hwi;have hw4:wrap64 ((n:Int)+1)=(n:Int)+1:=IntWalk.wrap64_in _ hwn;have HGM:=hH hGm;have HRR:=hH (And.intro hR2s hR2t);clear hwi hwn hcm hki hGm hR2s hR2t hgw hvw;go_enter Tryz.func250,Tryz.ntmps250;go_wp2_with (first
  |(at_builtin;go_must (refine Lib.wpList_append_run _ rfl _ _ _ _ rfl _ _ rfl rfl _ _ (hrz _) ?_))
  |((with_reducible (show wpList _ _ _ (_::_) _ _));(refine Qef _ rfl (.tmp 43) (.tmp 44) 40 40 rfl _ _ rfl rfl (HC1.o _ HN.o HVN.o _ _) ?_)))
 go_region_law (refine Qfo rfl (.tmp 50) (.tmp 53) 40 40 rfl (.slice (some ⟨w.heap.size,(i+1) * 2,none⟩) (n-i) (G-(i+1))) (.slice (some ⟨g,i * 2,none⟩) (n-i) (c-i)) (by simp[Act.eval,Act.put]) (by simp[Act.eval,Act.put]) (HC2.o (((w.drew.alloc (.cells ROW 103)).setRow w.heap.size R1).drew) (setRow_heap _ w.heap.size ROW R1 _ _ HN.o) ((setRow_other _ w.heap.size g R1 hne2).trans HGN.o) 3 (G-(i+1)) (c-i)) ?_)
 all_goals go_wp2
 all_goals go_ret
 all_goals exact⟨G,rfl,hGn,HGM.o,R2,HRR.o.1,HRR.o.2,setRow_heap _ w.heap.size R1 R2 _ _ (setRow_heap _ w.heap.size ROW R1 _ _ HN.o),⟨rfl,rfl,rfl,sI,fun k hk _=>((setRow_other _ w.heap.size k R2 oM).trans (setRow_other _ w.heap.size k R1 oM)).trans (Qdu w.drew _ hk)⟩⟩
theorem Q06 {F:Nat→Prop} {w:World} {xs:List Value}:∀{l:List Mk},Qcu RMk 2 F w xs l→∀u∈xs,u.oneCell'=true
 | [],h,u,hu=>by
  have:xs=[]:=List.length_eq_zero_iff.1 (by simpa using h.1);subst this;simp at hu
 |x::l,h,u,hu=>by
  obtain⟨h1,h2⟩:=Qj0 h;rw[←List.take_append_drop 2 xs] at hu;rcases List.mem_append.1 hu with hu|hu
  ·exact Qf1 _ _ _ _ h1 u hu
  ·exact Q06 h2 u hu
theorem Qou {base:Nat} {F G:Nat→Prop} {w:World} {v:Value} {l:List Mk} {i vb:Nat} {te:TypeId} {x0 x1:Value} {x:Mk} (hown:OSl RMk 2 103 base F w v l) (hi:i≤l.length) (hl:l.length≤1000)
  (hv:w.heap[vb]?=some (.cells #[x0,x1] te (0,0))) (hx:RMk G w [x0,x1] x) (hG:∀k,G k→k<w.heap.size→F k∧some k≠v.ownBlock) (hvb:some vb≠v.ownBlock) (hFv:F vb) (hbase:base≤w.heap.size):
  Calls Tryz.prog 250 #[v,.int .i64 i,.slice (some ⟨vb,0,none⟩) 1 1] w fun e w'=>∃v',e= .returned v'∧OSl RMk 2 103 base F w' v' (l.take i++x::l.drop i)∧w.grownBy w' v.ownBlock∧(v'.ownBlock=v.ownBlock∨v'.ownBlock=some w.heap.size):=by
 have hvw:vb<w.heap.size:=(Array.getElem?_eq_some_iff.1 hv).1;have h1v:∀u∈[x0,x1],u.oneCell'=true:=Qf1 _ _ _ _ hx;have hone:RSl RMk 2 (fun k=>G k∨k=vb) w (.slice (some ⟨vb,0,none⟩) 1 1) [x]:=
  Qbe (o:=0) (xs:=[x0,x1]) (fun j u hj=>by rw[Nat.zero_add];exact Qb4 hv (by simpa using hj)) (Qbg rfl (gMk.more (fun k hk _=>Or.inl hk) hx)) (Or.inr rfl) hvw (Nat.le_refl _) mO
 by_cases hin:i=l.length
 ·subst hin;have e:l.take l.length++x::l.drop l.length=l++[x]:=sI;rw[e];obtain⟨i0,hi0,hz0,hz1,hz2⟩:=info_parts Ql3;have HJ:=hH hi0;have HZ0:=hH hz0;have HZ1:=hH hz1;have HZ2:=hH hz2;have HO:=hH hown;have HONE:=hH hone;have HGG:=hH (show∀k,(G k∨k=vb)→k<w.heap.size→F k∧some k≠v.ownBlock from fun k hk hlt=>hk.elim (fun h=>hG k h hlt) (fun h=>h▸⟨hFv,hvb⟩));have HL:=hH hl;have HB:=hH hbase;obtain⟨xs,hrow,hch⟩:=hown;rcases hrow.2 with⟨rfl,h0⟩|⟨g,c,cur,rfl,hb,hh,hnc,hcm,hcs,ht⟩
  ·obtain rfl:l=[]:=List.length_eq_zero_iff.1 h0;clear hrow hch h0 hi0 hz0 hz1 hz2 hone hvb hG hv hx hl hi hbase hvw;go_enter Tryz.func250,Tryz.ntmps250;go_wp2_with (at_builtin;go_must (refine Qaj gMk rfl (.tmp 23) (.tmp 24) 40 rfl base 103 i0 _ 2 32 Tryz.underlying40 HJ.o HZ0.o HZ1.o HZ2.o rfl oM (F:=F) (G:=fun k=>G k∨k=vb) (.slice none 0 0) [] rfl HO.o (.slice (some ⟨vb,0,none⟩) 1 1) [x] rfl HONE.o Qf1 HGG.o (Qfs HL.o) (Qia HL.o) HB.o ?_;intro v9 w9 hown9 hg9 hat9;obtain⟨a9,n9,c9,rfl⟩:=Qab hown9))
   go_ret;exact⟨_,rfl,hown9,hg9,hat9⟩
  ·have hcmI:l.length≤9223372036854775807:=oM;have hii:(0:Int)≤(l.length:Int):=Int.natCast_nonneg _;have hncI:(l.length:Int)≤(c:Int):=by exact_mod_cast hnc
   clear hrow hch hi0 hz0 hz1 hz2 hone hvb hG hv hx hi hbase hvw hh hcs ht hcm hb;go_enter Tryz.func250,Tryz.ntmps250;go_wp2_with (at_builtin;go_must (refine Qaj gMk rfl (.tmp 23) (.tmp 24) 40 rfl base 103 i0 _ 2 32 Tryz.underlying40 HJ.o HZ0.o HZ1.o HZ2.o rfl oM (F:=F) (G:=fun k=>G k∨k=vb) (.slice (some ⟨g,0,none⟩) l.length c) l rfl HO.o (.slice (some ⟨vb,0,none⟩) 1 1) [x] rfl HONE.o Qf1 HGG.o (Qfs HL.o) (Qia HL.o) HB.o ?_;intro v9 w9 hown9 hg9 hat9;obtain⟨a9,n9,c9,rfl⟩:=Qab hown9))
   all_goals go_ret
   all_goals exact⟨_,rfl,hown9,hg9,hat9⟩
 ·obtain⟨xs,hrow,hch⟩:=hown;have h1:=Q06 hch;rcases hrow.2 with⟨rfl,h0⟩|⟨g,c,cur,rfl,hb,hh,hnc,hcm,hcs,ht⟩
  ·omega
  ·have hne:vb≠g:=fun e=>hvb (congrArg some e)
   have hxl:l.take i++x::l.drop i=l.take i++[x]++l.drop i:=sI;have hcs':Qcu RMk 2 (fun k=>F k∧some k≠some g) w (xs.take (i * 2)++[x0,x1]++xs.drop (i * 2)) (l.take i++x::l.drop i):=by
    rw[hxl];exact Qcj (Qcj (Qfw hch hi) (Qbg rfl (gMk.more hG hx))) (Qfv hch hi)
   have hlen:(l.take i++x::l.drop i).length=l.length+1:=sP;subst ht;by_cases hroom:l.length+1≤c
   ·refine(Qr8 hh oM hroom (by unfold maxLen at hcm;omega) hcs hv hne h1 h1v hl).mono ?_;rintro e w' ⟨rfl,row,hrs,hrt,hrh,hgr⟩;refine⟨_,rfl,⟨_,⟨hcs'.1,.inr ⟨g,c,row,by rw[hlen],hb,hrh,by rw[hlen];exact hroom,hcm,hrs,by rw[hlen];exact hrt⟩⟩,?_⟩,hgr,.inl rfl⟩;exact Qbv gMk ⟨hgr.size,fun k hk hlt=>hgr.block k hlt hk.2⟩ hcs'
   ·refine(Qtw hh oM hnc oM (by unfold maxLen at hcm;omega) hcs hv h1 h1v hl).mono ?_;rintro e w' ⟨G',rfl,hG1,hG2,row,hrs,hrt,hrh,hgr⟩;refine⟨_,rfl,⟨_,⟨hcs'.1,.inr ⟨w.heap.size,G',row,by rw[hlen],hbase,hrh,by rw[hlen];exact hG1,hG2,hrs,by rw[hlen];exact hrt⟩⟩,?_⟩,⟨hgr.os,hgr.tape,hgr.output,hgr.size,fun k hlt _=>hgr.block k hlt sI⟩,.inr rfl⟩;exact Qbv gMk ⟨hgr.size,fun k hk hlt=>hgr.block k hlt sI⟩ (Qb7 gMk (fun k hk hlt=>⟨hk.1,fun e=>by(have e':k=w.heap.size:=(by simpa [Value.ownBlock] using e);omega)⟩) hcs')
structure Kept (Z:Nat→Prop) (w w':World):Prop where
 os:w'.os=w.os
 tape:w'.tape=w.tape
 output:w'.output=w.output
 size:w.heap.size≤w'.heap.size
 block:∀k,Z k→k<w.heap.size→w'.heap[k]?=w.heap[k]?
section
variable {Z:Nat→Prop} {a w w':World}
theorem Qkv:Kept Z w w:=⟨rfl,rfl,rfl,Nat.le_refl _,fun _ _ _=>rfl⟩
theorem Qa3 {b c:World} (h:Kept Z a b) (k:Kept Z b c):Kept Z a c:=
 ⟨k.os.trans h.os,k.tape.trans h.tape,k.output.trans h.output,Nat.le_trans h.size k.size,fun i hi hl=>(k.block i hi (Nat.lt_of_lt_of_le hl h.size)).trans (h.block i hi hl)⟩
theorem Qbs (h:Ext w w'):Kept Z w w':=⟨Below.os h,Below.tape h,Below.output h,Below.size h,fun k _ hk=>Below.block h k hk⟩
theorem Qqr {row:Option Nat} (h:w.grownBy w' row) (hr:∀k,Z k→some k≠row):Kept Z w w':=⟨h.os,h.tape,h.output,h.size,fun k hk hl=>h.block k hl (hr k hk)⟩
theorem Qsb (h:Kept Z a w) {p:Addr} (hp:¬Z p.block) (u:Value):Kept Z a (w.setCell p u):=
 ⟨by simpa [World.setCell] using h.os,by simpa [World.setCell] using h.tape,by simpa [World.setCell] using h.output,by simpa [World.setCell] using h.size,
  fun k hk hl=>(Below.heap_setCell w p u k (fun e=>by subst e;exact hp hk)).trans (h.block k hk hl)⟩
theorem Kept.toExt (h:Kept Z w w') (k:Ext a w) (hz:∀j,j<a.heap.size→Z j):Ext a w':=by
 have k':Below a.heap.size a w:=k;exact(⟨h.os.trans k'.os,h.tape.trans k'.tape,h.output.trans k'.output,Nat.le_trans k'.size h.size,fun j hj=>(h.block j (hz j hj) (Nat.lt_of_lt_of_le hj k'.size)).trans (k'.block j hj)⟩:Below a.heap.size a w')
theorem Kept.cell (h:Kept Z w w') {b:Nat} (hz:Z b) (hb:b<w.heap.size) (o:Nat):w'.cell? ⟨b,o,none⟩=w.cell? ⟨b,o,none⟩:=World.cell?_of_block (a:=⟨b,o,none⟩) (h.block b hz hb)
theorem Kept.frz (h:Kept Z w w') {b:Nat} (hz:Z b) (hb:b<w.heap.size) (o:Nat):w'.frozen? ⟨b,o,none⟩=w.frozen? ⟨b,o,none⟩:=World.frozen?_of_block (a:=⟨b,o,none⟩) (h.block b hz hb)
theorem Kept.keeps (h:Kept Z w w'):Keeps Z w w':=⟨h.size,fun k hk hl=>h.block k hk hl⟩
theorem Kept.less {Y:Nat→Prop} (h:Kept Z w w') (hy:∀k,Y k→Z k):Kept Y w w':=⟨h.os,h.tape,h.output,h.size,fun k hk hl=>h.block k (hy k hk) hl⟩
end
def DoerIs (Z:Nat→Prop) (B b:Nat) (s:St) (W:World) (v u:Value):Prop:=
 W.cell? ⟨b,0,none⟩=some v∧W.cell? ⟨b,1,none⟩=some u∧(∀o,W.frozen? ⟨b,o,none⟩=false)∧
 OSl RAt 3 129 B (fun j=>B≤j∧j≠b∧some j≠u.ownBlock) W v s.1∧OSl RMk 2 103 B (fun j=>B≤j∧j≠b∧some j≠v.ownBlock) W u s.2∧
 (∀j,v.ownBlock=some j→u.ownBlock≠some j∧j≠b∧¬Z j)∧(∀j,u.ownBlock=some j→j≠b∧¬Z j)∧B≤b∧¬Z b
def Qpx (Z:Nat→Prop) (B b:Nat) (s:St) (W:World):Prop:=∃v u,DoerIs Z B b s W v u
section
variable {Z:Nat→Prop} {B b:Nat} {s:St} {w w':World} {v u:Value}
theorem DoerIs.c0 (h:DoerIs Z B b s w v u):w.cell? ⟨b,0,none⟩=some v:=h.1
theorem DoerIs.c1 (h:DoerIs Z B b s w v u):w.cell? ⟨b,1,none⟩=some u:=h.2.1
theorem DoerIs.fz (h:DoerIs Z B b s w v u) (o:Nat):w.frozen? ⟨b,o,none⟩=false:=h.2.2.1 o
theorem DoerIs.oa (h:DoerIs Z B b s w v u):OSl RAt 3 129 B (fun j=>B≤j∧j≠b∧some j≠u.ownBlock) w v s.1:=h.2.2.2.1
theorem DoerIs.og (h:DoerIs Z B b s w v u):OSl RMk 2 103 B (fun j=>B≤j∧j≠b∧some j≠v.ownBlock) w u s.2:=h.2.2.2.2.1
theorem DoerIs.ra (h:DoerIs Z B b s w v u):∀j,v.ownBlock=some j→u.ownBlock≠some j∧j≠b∧¬Z j:=h.2.2.2.2.2.1
theorem DoerIs.rg (h:DoerIs Z B b s w v u):∀j,u.ownBlock=some j→j≠b∧¬Z j:=h.2.2.2.2.2.2.1
theorem DoerIs.le (h:DoerIs Z B b s w v u):B≤b:=h.2.2.2.2.2.2.2.1
theorem DoerIs.nz (h:DoerIs Z B b s w v u):¬Z b:=h.2.2.2.2.2.2.2.2
theorem Qgo (h:DoerIs Z B b s w v u):b<w.heap.size:=World.block_lt_of_cell? _ _ h.1
theorem Qbm (h:DoerIs Z B b s w v u) (hx:Ext w w'):DoerIs Z B b s w' v u:=by
 have hb:=Qgo h;obtain⟨h1,h2,h3,h4,h5,h6,h7,h8,h9⟩:=h;exact⟨(hx.cells _ _ hb).trans h1,(hx.cells _ _ hb).trans h2,fun o=>(hx.frz _ _ hb).trans (h3 o),Qai gAt h4 hx,Qai gMk h5 hx,h6,h7,h8,h9⟩
theorem Qom {Y:Nat→Prop} (h:DoerIs Z B b s w v u) (hy:∀j,Y j→Z j∨w.heap.size≤j):DoerIs Y B b s w v u:=by
 have hb:=Qgo h;obtain⟨h1,h2,h3,h4,h5,h6,h7,h8,h9⟩:=h;refine⟨h1,h2,h3,h4,h5,fun j hj=>⟨(h6 j hj).1,(h6 j hj).2.1,fun hy'=> ?_⟩,fun j hj=>⟨(h7 j hj).1,fun hy'=> ?_⟩,h8,fun hy'=> ?_⟩
 ·rcases hy j hy' with h|h
  ·exact(h6 j hj).2.2 h
  ·have:=(Qak h4 j hj).2;omega
 ·rcases hy j hy' with h|h
  ·exact(h7 j hj).2 h
  ·have:=(Qak h5 j hj).2;omega
 ·rcases hy b hy' with h|h
  ·exact h9 h
  ·omega
theorem Qql (h:DoerIs Z B b s w v u):RSl RAt 3 (fun k=>B≤k) w v s.1:=Qaz gAt h.2.2.2.1 (fun _ hk _=>hk.1) (fun _ hk=>hk)
theorem Qid (h:DoerIs Z B b s w v u):RSl RMk 2 (fun k=>B≤k) w u s.2:=Qaz gMk h.2.2.2.2.1 (fun _ hk _=>hk.1) (fun _ hk=>hk)
end
theorem Qkr {F G:Nat→Prop} {w:World} {b:Nat} {u:Value} {ds:List Value} {g:List Mk} {m:Mk} (hc:w.cell? ⟨b,1,none⟩=some u) (hu:RSl RMk 2 F w u g) (hm:RMk G w ds m) (hs:Qca g) (hn:g.length≤1000000):
  Calls Tryz.prog 247 #[.pointer (some ⟨b,0,none⟩),.agg ds.toArray] w (Qlu (Qd0 g m) (Qc5 g m) w):=by
 have hbz:b<w.heap.size:=World.block_lt_of_cell? _ _ hc;have HS:=hH (fun(W:World) (hx:Ext w W)=>(Qwr (hu.ext gMk hx) (gMk.ext hm hx) hs hn:Calls Tryz.prog 256 #[u,.agg ds.toArray,.func (.func 220) #[] #[]] W (fun e w'=>e= .returned (.tuple #[.int .i64 (Qd0 g m:Nat),.bool (Qc5 g m)])∧Ext W w')));obtain⟨a0,n0,c0,rfl⟩:=hu.slice;obtain⟨x,rfl,hx,_⟩:=hm;obtain⟨p,d⟩:=m;simp only at hx HS ⊢;obtain⟨a2,n2,c2,rfl⟩:=hx.slice;generalize Qd0 g (p,d)=pl at *;generalize Qc5 g (p,d)=hb at *;clear hu hx hs hn;go_enter Tryz.func247,Tryz.ntmps247;go_wp2_with fail
 refine Qad (fun W2 eW2=> ?_);have e0:=rL eW2 ⟨b,1,none⟩ (.slice a0 n0 c0);obtain⟨e1,e2⟩:=rR2 eW2 w.heap.size (.slice a2 n2 c2) (.int .i64 d);have zW2_0:=zE eW2 b;have zW2_1:=zE eW2 w.heap.size;have hw2:=xE w eW2;clear eW2;refine Qaa fol kR (fun hlater=> ?_);repeat(go_big_quiet_step ((first
   |(go_at_call 256;(with_reducible exact Qah (HS.o _ (ext_trans hw2 (Later.ext _))))))))
 refine wpQuiet_nil ?_;rintro w3 ⟨⟨w3x,hx3⟩,rfl⟩;clear hlater;go_wp2_with fail
 refine bodyPost_ret (v:= .tuple #[.int .i64 (pl:Nat),.bool hb]) (by simp[results,Tryz.results247,go_sem]) rfl ⟨rfl,ext_trans hw2 hx3⟩
theorem Q7i {l:List At} {m:Mk} (hs:Qa9 l) (h:Qel l m=true):Qbb l [m]=l.take (Qcv l m)++l.drop (Qcv l m+1)∧Qcv l m<l.length:=by
 induction l with
 |nil=>simp[Qel] at h
 |cons x r ih=>
  rw[Qie] at h;rw[Qj5];by_cases h0:Qau x.1 m=0
  ·have hr:∀b∈r,Qau b.1 m=1:=fun b hb=>Qhw (Qcc hs b hb) oM
   rw[(Qg3 hr).1,if_neg oM];refine⟨?_,sI⟩;have e1:Qbb (x::r) [m]=Qbb r [m]:=by
    unfold Qbb;rw[List.filter_cons,if_neg];have:Qau m x.1=0:=by rw[ordM_zero] at h0 ⊢;exact h0.symm
    simp[Qc5,this]
   have e2:Qbb r [m]=r:=by
    unfold Qbb;rw[List.filter_eq_self];intro b hb;have h1:=hr b hb;have h2:=Qo2 b.1 m;have:¬Qau m b.1=0:=oM;simp[Qc5,this]
   rw[e1,e2];simp
  ·rw[decide_eq_false h0,Bool.false_or] at h;obtain⟨i1,i2⟩:=ih (Qb3 hs) h;have hlt:Qau x.1 m<0:=by
    by_cases h1:Qau x.1 m=1
    ·have:=(Qg3 (r:=r) (m:=m) (fun b hb=>Qhw (Qcc hs b hb) oM)).2;rw[this] at h;cases h
    ·rcases Qbw x.1 m with h2|h2|h2<;>omega
   rw[if_pos hlt];have e1:Qbb (x::r) [m]=x::Qbb r [m]:=by
    unfold Qbb;rw[List.filter_cons,if_pos];have:¬Qau m x.1=0:=by rw[ordM_zero] at h0 ⊢;exact fun e=>h0 e.symm
    simp[Qc5,this]
   rw[e1,i1];exact⟨sI,sP⟩
theorem Q36 {l:List At} {m:Mk} (h:Qel l m=false):Qbb l [m]=l:=by
 unfold Qbb;rw[List.filter_eq_self];intro b hb;have h1:=List.any_eq_false.1 h b hb;have:¬Qau m b.1=0:=by
  have h2:¬Qau b.1 m=0:=by simpa using h1
  rw[ordM_zero] at h2 ⊢;exact fun e=>h2 e.symm
 simp[Qc5,this]
theorem Qp1 (w:World) (o:Obj):(w.alloc o).drew.heap[w.heap.size]?=some o:=heap_alloc_new w o
theorem Qp2 (w:World) (o:Obj):(w.drew.alloc o).heap[w.heap.size]?=some o:=heap_alloc_new w.drew o
section
variable {Z:Nat→Prop} {B b:Nat} {s:St} {w w4:World} {v u v4 u4:Value}
theorem Qtl {l:List At} (h:DoerIs Z B b s w v u) (hv4:OSl RAt 3 129 B (fun j=>B≤j∧j≠b∧some j≠u.ownBlock) w4 v4 l) (hg:w.grownBy w4 v.ownBlock) (hat:v4.ownBlock=v.ownBlock):
  DoerIs Z B b (l,s.2) (w4.setCell ⟨b,0,none⟩ v4) v4 u∧Kept Z w (w4.setCell ⟨b,0,none⟩ v4):=by
 have hb:=Qgo h;obtain⟨h1,h2,h3,h4,h5,h6,h7,h8,h9⟩:=h;have hbr:some b≠v.ownBlock:=fun e=>(h6 b e.symm).2.1 rfl
 have hbk:=hg.block b hb hbr;have f0:=(World.frozen?_of_block (a:=⟨b,0,none⟩) hbk).trans (h3 0);have c0:=(World.cell?_of_block (a:=⟨b,0,none⟩) hbk).trans h1;have c1:=(World.cell?_of_block (a:=⟨b,1,none⟩) hbk).trans h2;have hkb:∀Y:Nat→Prop,¬Y b→Keeps Y w4 (w4.setCell ⟨b,0,none⟩ v4):=fun Y hy=>Qae Qag (fun _ h=>hy h) _
 refine⟨⟨gS,gS,fun o=> ?_,?_,?_,?_,h7,h8,h9⟩,?_⟩
 ·have:=(World.frozen?_of_block (a:=⟨b,o,none⟩) hbk).trans (h3 o);go_simp
 ·refine Qa8 gAt hv4 (hkb _ (fun h=> ?_));rcases h with h|h
  ·exact h.2.1 rfl
  ·rw[hat] at h;exact hbr h
 ·have h5':OSl RMk 2 103 B (fun j=>B≤j∧j≠b∧some j≠v4.ownBlock) w u s.2:=by rw[hat];exact h5
  refine Qa8 gMk h5' (Keeps.trans ⟨hg.size,fun k hk hl=>hg.block k hl (fun e=> ?_)⟩ (hkb _ (fun h=> ?_)))
  ·rcases hk with hk|hk
   ·exact hk.2.2 (hat▸e)
   ·exact(h6 k e.symm).1 hk.symm
  ·rcases h with h|h
   ·exact h.2.1 rfl
   ·exact(h7 b h.symm).1 rfl
 ·intro j hj;rw[hat] at hj;exact h6 j hj
 ·exact Qsb (Qqr hg (fun k hk e=>(h6 k e.symm).2.2 hk)) h9 _
theorem Qtm {l:List Mk} (h:DoerIs Z B b s w v u) (hu4:OSl RMk 2 103 B (fun j=>B≤j∧j≠b∧some j≠v.ownBlock) w4 u4 l) (hg:w.grownBy w4 u.ownBlock) (hat:u4.ownBlock=u.ownBlock∨u4.ownBlock=some w.heap.size) (hZ:∀j,Z j→j<w.heap.size):
  DoerIs Z B b (s.1,l) (w4.setCell ⟨b,1,none⟩ u4) v u4∧Kept Z w (w4.setCell ⟨b,1,none⟩ u4):=by
 have hb:=Qgo h;obtain⟨h1,h2,h3,h4,h5,h6,h7,h8,h9⟩:=h;have hbr:some b≠u.ownBlock:=fun e=>(h7 b e.symm).1 rfl
 have hbk:=hg.block b hb hbr;have f0:=(World.frozen?_of_block (a:=⟨b,1,none⟩) hbk).trans (h3 1);have c0:=(World.cell?_of_block (a:=⟨b,0,none⟩) hbk).trans h1;have c1:=(World.cell?_of_block (a:=⟨b,1,none⟩) hbk).trans h2;have hkb:∀Y:Nat→Prop,¬Y b→Keeps Y w4 (w4.setCell ⟨b,1,none⟩ u4):=fun Y hy=>Qae Qag (fun _ h=>hy h) _
 have hu4b:∀j,u4.ownBlock=some j→u.ownBlock=some j∨j=w.heap.size:=fun j hj=>by
  rcases hat with e|e
  ·exact .inl (e.symm.trans hj)
  ·right;rw[e] at hj;exact(Option.some.inj hj).symm
 refine⟨⟨gS,gS,fun o=> ?_,?_,?_,fun j hj=>⟨fun hu=> ?_,(h6 j hj).2⟩,fun j hj=> ?_,h8,h9⟩,?_⟩
 ·have:=(World.frozen?_of_block (a:=⟨b,o,none⟩) hbk).trans (h3 o);go_simp
 ·have h4':OSl RAt 3 129 B (fun j=>(B≤j∧j≠b∧some j≠u.ownBlock)∧j<w.heap.size) w v s.1:=Qc8 gAt h4 (fun k hk hl _=>⟨hk,hl⟩);have h4'':OSl RAt 3 129 B (fun j=>B≤j∧j≠b∧some j≠u4.ownBlock) w v s.1:=Qc8 gAt h4' (fun k hk hl _=>⟨hk.1.1,hk.1.2.1,fun e=>by
   rcases hu4b k e.symm with e2|e2
   ·exact hk.1.2.2 e2.symm
   ·omega⟩)
  have h4x:OSl RAt 3 129 B (fun j=>B≤j∧j≠b∧some j≠u.ownBlock) (w4.setCell ⟨b,1,none⟩ u4) v s.1:=by
   refine Qa8 gAt h4 (Keeps.trans ⟨hg.size,fun k hk hl=>hg.block k hl (fun e=> ?_)⟩ (hkb _ (fun h=> ?_)))
   ·rcases hk with hk|hk
    ·exact hk.2.2 e
    ·exact(h6 k hk.symm).1 e.symm
   ·rcases h with h|h
    ·exact h.2.1 rfl
    ·exact(h6 b h.symm).2.1 rfl
  rcases hat with e|e
  ·rw[e];exact h4x
  ·have h4y:OSl RAt 3 129 B (fun j=>(B≤j∧j≠b∧some j≠u.ownBlock)∧j<w.heap.size) (w4.setCell ⟨b,1,none⟩ u4) v s.1:=by
    refine Qa8 gAt h4' (Keeps.trans ⟨hg.size,fun k hk hl=>hg.block k hl (fun e=> ?_)⟩ (hkb _ (fun h=> ?_)))
    ·rcases hk with hk|hk
     ·exact hk.1.2.2 e
     ·exact(h6 k hk.symm).1 e.symm
    ·rcases h with h|h
     ·exact h.1.2.1 rfl
     ·exact(h6 b h.symm).2.1 rfl
   exact Qc8 gAt h4y (fun k hk _ _=>⟨hk.1.1,hk.1.2.1,fun e2=>by rw[e] at e2;have:=Option.some.inj e2;omega⟩)
 ·refine Qa8 gMk hu4 (hkb _ (fun h=> ?_));rcases h with h|h
  ·exact h.2.1 rfl
  ·rcases hu4b b h.symm with e|e
   ·exact hbr e.symm
   ·omega
 ·rcases hu4b j hu with e|e
  ·exact(h6 j hj).1 e
  ·have:=(Qak h4 j hj).2;omega
 ·rcases hu4b j hj with e|e
  ·exact h7 j e
  ·exact⟨oM,fun hz=>by have:=hZ j hz;omega⟩
 ·exact Qsb (Qqr hg (fun k hk e=>(h7 k e.symm).2 hk)) h9 _
end
theorem Zai {p:Prop} (h:p:=by
 go_region_law (go_simp;go_at_call 250;go_must ((with_reducible refine(HIN.o _ Qac _ (by first|exact Qp1 _ _|exact Qen _ _|exact Qp2 _ _) ltA).mono ?_);rintro e w8 ⟨v8,rfl,hv8,hg8,hat8⟩;obtain⟨a8,n8,c8,rfl⟩:=Qab hv8;have HV8:=hH (Qtm (Qbm HD7.o Qac) hv8 hg8 hat8 (fun j hj=>by have:=HYL.o j hj;first|omega|(simp<;>omega)));have hbk8:=hg8.block b ltA (fun e=>(HD7.o.rg b e.symm).1 rfl);have r1:=(World.cell?_of_block (a:=⟨b,1,none⟩) hbk8).trans (show _=some (.slice au nu cu) by first|(with_reducible assumption)|go_simp);have rf1:=(World.frozen?_of_block (a:=⟨b,1,none⟩) hbk8).trans (show _=false by first|(with_reducible assumption)|go_simp);clear hv8 hg8 hat8 hbk8))
 all_goals go_wp2_with fail
 all_goals (go_end0;refine⟨rfl,⟨_,_,Qom (by rw[HE.o,HTE.o];exact HV8.o.1) (fun j hj=> .inl (HYZ.o j hj))⟩,(Qa3 (Qa3 (Qbs HX3.o) HK5.o) (Qa3 (Qa3 (Qbs HX7.o) (Qbs Qac)) HV8.o.2)).less HYZ.o⟩)):p:=h
theorem Q7k {Z:Nat→Prop} {w0 w:World} {B b:Nat} {s:St} {v u:Value} {ds:List Value} {m:Mk} (h:DoerIs Z B b s w0 v u) (hx0:Ext w0 w) (hm:RMk (fun j=>w0.heap.size≤j) w ds m) (hZ:∀j,Z j→j<w.heap.size)
  (hs:Qa9 s.1) (hg:Qca s.2) (hl:s.1.length≤1000) (hn:s.2.length≤1000):
  Calls Tryz.prog 229 #[.pointer (some ⟨b,0,none⟩),.agg ds.toArray] w (fun e w'=>e= .returned (.tuple #[])∧Qpx Z B b (Qbb s.1 [m],Qmf s.2 m) w'∧Kept Z w w'):=by
 have hb0:=Qgo h;have hsz0:=hx0.size;obtain⟨Y,hY⟩:∃Y:Nat→Prop,Y=fun j=>Z j∨(w0.heap.size≤j∧j≤w.heap.size):=⟨_,rfl⟩
 have HYZ:=hH (show∀j,Z j→Y j by rw[hY];exact fun j hj=> .inl hj);have HYM:=hH (show∀j,w0.heap.size≤j→j≤w.heap.size→Y j by rw[hY];exact fun j h1 h2=> .inr ⟨h1,h2⟩);have HYL:=hH (show∀j,Y j→j≤w.heap.size by rw[hY];exact fun j hj=>hj.elim (fun h=>Nat.le_of_lt (hZ j h)) (fun h=>h.2));have hd0:DoerIs Y B b s w0 v u:=Qom h (by rw[hY];exact fun j hj=>hj.elim .inl (fun h=> .inr h.1));have HD:=hH (fun(W:World) (hx:Ext w W)=>Qbm hd0 (ext_trans hx0 hx));clear hd0 hY;have HF:=hH (fun(W:World) (hx:Ext w W)=>(Qkq ((Qql h).ext gAt (ext_trans hx0 hx)) (gMk.ext hm hx) hs oM:Calls Tryz.prog 221 #[v,.agg ds.toArray] W (fun e w'=>e= .returned (.tuple #[.int .i64 (Qcv s.1 m:Nat),.bool (Qel s.1 m)])∧Ext W w')));have hm':RMk (fun j=>w0.heap.size≤j∧j≤w.heap.size) w ds m:=gMk.more (fun j hj hlt=>⟨hj,Nat.le_of_lt hlt⟩) hm;have HMK:=hH hm';have hB:B≤b:=h.le;clear hm';obtain⟨av,nv,cv,rfl⟩:=Qab h.oa;obtain⟨au,nu,cu,rfl⟩:=Qab h.og;have HRV:=hH (Qak h.oa);have HRU:=hH (Qak h.og);have HS:=hH hs;have HG:=hH hg;have HX0:=hH hx0;obtain⟨x,rfl,hx,hi⟩:=hm;obtain⟨p,d⟩:=m;obtain⟨la,lg⟩:=s;simp only at hx hi HF hl hn HS HG ⊢;obtain⟨a2,n2,c2,rfl⟩:=hx.slice;have HI:=hH hi;clear hx hi h hs hg hx0 hZ;go_enter Tryz.func229,Tryz.ntmps229;go_wp2_with fail
 refine Qad (fun W2 eW2=> ?_);obtain⟨z0,z1⟩:=rR2 eW2 w.heap.size (.slice a2 n2 c2) (.int .i64 d);have hw2:=xE w eW2;have hs2:w.heap.size+1≤W2.heap.size:=by rw[eW2];simp
 clear eW2;have HD2:=hH (HD.o W2 hw2);have y0:=HD2.o.c0;have hbw:b<W2.heap.size:=oM;have hbx:w.heap.size<W2.heap.size:=oM;refine Qaa fol kR (fun hlater=> ?_);repeat(go_big_quiet_step ((first
   |(go_at_call 221;(with_reducible exact Qah (HF.o _ (ext_trans hw2 (Later.ext _))))))))
 refine wpQuiet_nil ?_;rintro W3 ⟨⟨w3x,hx3'⟩,rfl⟩;clear hlater;have hs3:=hx3'.size;have x0:=(hx3'.cells _ _ hbx).trans z0;have x1:=(hx3'.cells _ _ hbx).trans z1;have HD3:=hH (Qbm HD2.o hx3');have HX3:=hH (ext_trans hw2 hx3');have y3:=HD3.o.c0;have y4:=HD3.o.c1;have yf0:=HD3.o.fz 0;have yf1:=HD3.o.fz 1;clear z0 z1 y0 hw2 hx3' HD2 HF;cases hm:Qel la (p,d) with
 |true=>
  obtain⟨he1,he2⟩:=Q7i HS.o hm;have HTE:=hH he1;have HPI:=hH he2;generalize Qcv la (p,d)=pa at *;have hw1:wrap64 ((pa:Int)+1)=(pa:Int)+1:=IntWalk.wrap64_in _ (by have:=HPI.o;omega);clear hm he1 he2;cases hh:Qc5 lg (p,d) with
  |true=>
   have HE:=hH (Qnq HG.o hh);have HPL:=hH (Qle lg (p,d));have hgn:=fun(V:World) (vu:Value) (hc:V.cell? ⟨b,1,none⟩=some vu) {F1:Nat→Prop} (hu:RSl RMk 2 F1 V vu lg) {G1:Nat→Prop} {cs:List Value} (hm:RMk G1 V cs (p,d))=>Qkr hc hu hm HG.o oM
   rw[hh] at hgn;generalize Qd0 lg (p,d)=pg at *;have HGN:=hH hgn;clear hgn hh;go_wp2_with (first|(go_at_call 249;go_must ((with_reducible refine(Qmu (base:=B) (F:=fun j=>B≤j∧j≠b∧some j≠(Value.slice au nu cu).ownBlock) HD3.o.oa HPI.o (by simpa using hl)).mono ?_);rintro e w4 ⟨v4,rfl,hv4,hg4,hat4⟩;obtain⟨a4,n4,c4,rfl⟩:=Qab hv4;have HV4:=hH (Qtl HD3.o hv4 hg4 hat4);have hbk4:=hg4.block b oM (fun e=>(HD3.o.ra b e.symm).2.1 rfl);have r0:=(World.cell?_of_block (a:=⟨b,0,none⟩) hbk4).trans y3;have rf0:=(World.frozen?_of_block (a:=⟨b,0,none⟩) hbk4).trans yf0;have hbx4:=hg4.block w.heap.size oM (fun e=>by have:=(HRV.o _ e.symm).2;omega);have rb0:=(World.cell?_of_block (a:=⟨w.heap.size,0,none⟩) hbx4).trans x0;have rb1:=(World.cell?_of_block (a:=⟨w.heap.size,1,none⟩) hbx4).trans x1;have hs4:=hg4.size;have hnb:¬b=w.heap.size:=oM;have hnb':¬w.heap.size=b:=oM;have HD5:Hid (DoerIs Y B b (la.take pa++la.drop (pa+1),lg) (w4.setCell ⟨b,0,none⟩ (.slice a4 n4 c4)) (.slice a4 n4 c4) (.slice au nu cu)):=hH HV4.o.1;have HK5:Hid (Kept Y W3 (w4.setCell ⟨b,0,none⟩ (.slice a4 n4 c4))):=hH HV4.o.2;clear hv4 hg4 hat4 hbk4 hbx4 HV4;have HMW:Hid (RMk (fun j=>w0.heap.size≤j∧j≤w.heap.size) (w4.setCell ⟨b,0,none⟩ (.slice a4 n4 c4)) [.slice a2 n2 c2,.int .i64 d] (p,d)):=hH (gMk.keep ((Qa3 (Qbs HX3.o) HK5.o).less (fun j hj=>HYM.o j hj.1 hj.2)).keeps HMK.o);have HGO:=hH (fun(V:World) (hx:Ext (w4.setCell ⟨b,0,none⟩ (.slice a4 n4 c4)) V)=>(HGN.o V _ (Qbm HD5.o hx).c1 (Qid (Qbm HD5.o hx)) (gMk.ext HMW.o hx):Calls Tryz.prog 247 #[.pointer (some ⟨b,0,none⟩),.agg #[.slice a2 n2 c2,.int .i64 d]] V (fun e w'=>e= .returned (.tuple #[.int .i64 (pg:Nat),.bool true])∧Ext V w')))))|(go_at_call 247;go_must ((with_reducible refine(HGO.o _ Qac).mono ?_);rintro e w6 ⟨rfl,hx6⟩;have hs6:=hx6.size;(try simp at hs6);have HX6:=hH (show Ext (w4.setCell ⟨b,0,none⟩ (.slice a4 n4 c4)) w6 from ext_trans Qac hx6);have HD6:=hH (Qbm HD5.o HX6.o);have q0:=HD6.o.c0;have q1:=HD6.o.c1;have qf0:=HD6.o.fz 0;have qf1:=HD6.o.fz 1;obtain⟨qb0,qb1⟩:=cC2 hx6 w.heap.size (.slice a2 n2 c2) (.int .i64 d))))
   (go_end0;refine⟨rfl,⟨_,_,Qom (by rw[HE.o,HTE.o];exact HD6.o) (fun j hj=> .inl (HYZ.o j hj))⟩,(Qa3 (Qa3 (Qbs HX3.o) HK5.o) (Qbs HX6.o)).less HYZ.o⟩)
  |false=>
   have HE:=hH (Qsn HG.o hh);have HPL:=hH (Qle lg (p,d));have hgn:=fun(V:World) (vu:Value) (hc:V.cell? ⟨b,1,none⟩=some vu) {F1:Nat→Prop} (hu:RSl RMk 2 F1 V vu lg) {G1:Nat→Prop} {cs:List Value} (hm:RMk G1 V cs (p,d))=>Qkr hc hu hm HG.o oM
   rw[hh] at hgn;generalize Qd0 lg (p,d)=pg at *;have HGN:=hH hgn;clear hgn hh;go_wp2_with (first|(go_at_call 249;go_must ((with_reducible refine(Qmu (base:=B) (F:=fun j=>B≤j∧j≠b∧some j≠(Value.slice au nu cu).ownBlock) HD3.o.oa HPI.o (by simpa using hl)).mono ?_);rintro e w4 ⟨v4,rfl,hv4,hg4,hat4⟩;obtain⟨a4,n4,c4,rfl⟩:=Qab hv4;have HV4:=hH (Qtl HD3.o hv4 hg4 hat4);have hbk4:=hg4.block b oM (fun e=>(HD3.o.ra b e.symm).2.1 rfl);have r0:=(World.cell?_of_block (a:=⟨b,0,none⟩) hbk4).trans y3;have rf0:=(World.frozen?_of_block (a:=⟨b,0,none⟩) hbk4).trans yf0;have hbx4:=hg4.block w.heap.size oM (fun e=>by have:=(HRV.o _ e.symm).2;omega);have rb0:=(World.cell?_of_block (a:=⟨w.heap.size,0,none⟩) hbx4).trans x0;have rb1:=(World.cell?_of_block (a:=⟨w.heap.size,1,none⟩) hbx4).trans x1;have hs4:=hg4.size;have hnb:¬b=w.heap.size:=oM;have hnb':¬w.heap.size=b:=oM;have HD5:Hid (DoerIs Y B b (la.take pa++la.drop (pa+1),lg) (w4.setCell ⟨b,0,none⟩ (.slice a4 n4 c4)) (.slice a4 n4 c4) (.slice au nu cu)):=hH HV4.o.1;have HK5:Hid (Kept Y W3 (w4.setCell ⟨b,0,none⟩ (.slice a4 n4 c4))):=hH HV4.o.2;clear hv4 hg4 hat4 hbk4 hbx4 HV4;have HMW:Hid (RMk (fun j=>w0.heap.size≤j∧j≤w.heap.size) (w4.setCell ⟨b,0,none⟩ (.slice a4 n4 c4)) [.slice a2 n2 c2,.int .i64 d] (p,d)):=hH (gMk.keep ((Qa3 (Qbs HX3.o) HK5.o).less (fun j hj=>HYM.o j hj.1 hj.2)).keeps HMK.o);have HGO:=hH (fun(V:World) (hx:Ext (w4.setCell ⟨b,0,none⟩ (.slice a4 n4 c4)) V)=>(HGN.o V _ (Qbm HD5.o hx).c1 (Qid (Qbm HD5.o hx)) (gMk.ext HMW.o hx):Calls Tryz.prog 247 #[.pointer (some ⟨b,0,none⟩),.agg #[.slice a2 n2 c2,.int .i64 d]] V (fun e w'=>e= .returned (.tuple #[.int .i64 (pg:Nat),.bool false])∧Ext V w')))))|(go_at_call 247;go_must ((with_reducible refine(HGO.o _ Qac).mono ?_);rintro e w6 ⟨rfl,hx6⟩;have hs6:=hx6.size;(try simp at hs6);have HX6:=hH (show Ext (w4.setCell ⟨b,0,none⟩ (.slice a4 n4 c4)) w6 from ext_trans Qac hx6);have HD6:=hH (Qbm HD5.o HX6.o);have q0:=HD6.o.c0;have q1:=HD6.o.c1;have qf0:=HD6.o.fz 0;have qf1:=HD6.o.fz 1;obtain⟨qb0,qb1⟩:=cC2 hx6 w.heap.size (.slice a2 n2 c2) (.int .i64 d))))
   refine Qad (fun W7 eW7=> ?_);have HX7:=hH (show Ext (w4.setCell ⟨b,0,none⟩ (.slice a4 n4 c4)) W7 by rw[eW7];exact HX6.o);have HD7:=hH (Qbm HD5.o HX7.o);have HM7:=hH (gMk.ext HMW.o HX7.o);have t0:=HD7.o.c0;have t1:=HD7.o.c1;have tf0:=HD7.o.fz 0;have tf1:=HD7.o.fz 1;obtain⟨tb0,tb1⟩:=rR2 eW7 w.heap.size (.slice a2 n2 c2) (.int .i64 d);have hs7:W3.heap.size≤W7.heap.size:=by rw[eW7];first|omega|(simp;omega)
   have hb7:=Qgo HD7.o;have hz7:w.heap.size<W7.heap.size:=oM;have hnz7:¬w.heap.size=W7.heap.size:=oM;have hnb7:¬b=W7.heap.size:=oM;clear eW7 q0 q1 qf0 qf1 qb0 qb1 HGO HD6 HX6 hx6;have HIN:=hH (fun(V:World) (hx:Ext W7 V) (vb:Nat) (hv:V.heap[vb]?=some (.cells #[.slice a2 n2 c2,.int .i64 d] 103 (0,0))) (hge:W7.heap.size≤vb)=>
    Qou (base:=B) (F:=fun j=>B≤j∧j≠b∧some j≠(Value.slice a4 n4 c4).ownBlock) (G:=fun j=>w0.heap.size≤j∧j≤w.heap.size) (x:=(p,d)) (i:=pg) (Qai gMk HD7.o.og hx) HPL.o hn hv (gMk.ext HM7.o hx)
     (fun k hk hlt=>⟨⟨oM,oM,fun e=>(HD7.o.ra k e.symm).2.2 (HYM.o k hk.1 hk.2)⟩,fun e=>(HD7.o.rg k e.symm).2 (HYM.o k hk.1 hk.2)⟩) (fun e=>by have:=(Qak HD7.o.og vb e.symm).2;omega) ⟨oM,oM,fun e=>by have:=(Qak HD7.o.oa vb e.symm).2;omega⟩ (by have:=hx.size;omega))
   exact Zai
 |false=>
  have HTE:=hH (Q36 hm);generalize Qcv la (p,d)=pa at *;clear hm;cases hh:Qc5 lg (p,d) with
  |true=>
   have HE:=hH (Qnq HG.o hh);have HPL:=hH (Qle lg (p,d));have hgn:=fun(V:World) (vu:Value) (hc:V.cell? ⟨b,1,none⟩=some vu) {F1:Nat→Prop} (hu:RSl RMk 2 F1 V vu lg) {G1:Nat→Prop} {cs:List Value} (hm:RMk G1 V cs (p,d))=>Qkr hc hu hm HG.o oM
   rw[hh] at hgn;generalize Qd0 lg (p,d)=pg at *;have HGN:=hH hgn;clear hgn hh;have HD5:=HD3;have HK5:Hid (Kept Y W3 W3):=hH Qkv;have HMW:Hid (RMk (fun j=>w0.heap.size≤j∧j≤w.heap.size) W3 [.slice a2 n2 c2,.int .i64 d] (p,d)):=hH (gMk.keep ((Qa3 (Qbs HX3.o) HK5.o).less (fun j hj=>HYM.o j hj.1 hj.2)).keeps HMK.o);have HGO:=hH (fun(V:World) (hx:Ext W3 V)=>(HGN.o V _ (Qbm HD5.o hx).c1 (Qid (Qbm HD5.o hx)) (gMk.ext HMW.o hx):Calls Tryz.prog 247 #[.pointer (some ⟨b,0,none⟩),.agg #[.slice a2 n2 c2,.int .i64 d]] V (fun e w'=>e= .returned (.tuple #[.int .i64 (pg:Nat),.bool true])∧Ext V w')));go_wp2_with (first|(go_at_call 247;go_must ((with_reducible refine(HGO.o _ Qac).mono ?_);rintro e w6 ⟨rfl,hx6⟩;have hs6:=hx6.size;(try simp at hs6);have HX6:=xY W3 hx6;have HD6:=hH (Qbm HD5.o HX6.o);have q0:=HD6.o.c0;have q1:=HD6.o.c1;have qf0:=HD6.o.fz 0;have qf1:=HD6.o.fz 1;obtain⟨qb0,qb1⟩:=cC2 hx6 w.heap.size (.slice a2 n2 c2) (.int .i64 d))))
   (go_end0;refine⟨rfl,⟨_,_,Qom (by rw[HE.o,HTE.o];exact HD6.o) (fun j hj=> .inl (HYZ.o j hj))⟩,(Qa3 (Qa3 (Qbs HX3.o) HK5.o) (Qbs HX6.o)).less HYZ.o⟩)
  |false=>
   have HE:=hH (Qsn HG.o hh);have HPL:=hH (Qle lg (p,d));have hgn:=fun(V:World) (vu:Value) (hc:V.cell? ⟨b,1,none⟩=some vu) {F1:Nat→Prop} (hu:RSl RMk 2 F1 V vu lg) {G1:Nat→Prop} {cs:List Value} (hm:RMk G1 V cs (p,d))=>Qkr hc hu hm HG.o oM
   rw[hh] at hgn;generalize Qd0 lg (p,d)=pg at *;have HGN:=hH hgn;clear hgn hh;have HD5:=HD3;have HK5:Hid (Kept Y W3 W3):=hH Qkv;have HMW:Hid (RMk (fun j=>w0.heap.size≤j∧j≤w.heap.size) W3 [.slice a2 n2 c2,.int .i64 d] (p,d)):=hH (gMk.keep ((Qa3 (Qbs HX3.o) HK5.o).less (fun j hj=>HYM.o j hj.1 hj.2)).keeps HMK.o);have HGO:=hH (fun(V:World) (hx:Ext W3 V)=>(HGN.o V _ (Qbm HD5.o hx).c1 (Qid (Qbm HD5.o hx)) (gMk.ext HMW.o hx):Calls Tryz.prog 247 #[.pointer (some ⟨b,0,none⟩),.agg #[.slice a2 n2 c2,.int .i64 d]] V (fun e w'=>e= .returned (.tuple #[.int .i64 (pg:Nat),.bool false])∧Ext V w')));go_wp2_with (first|(go_at_call 247;go_must ((with_reducible refine(HGO.o _ Qac).mono ?_);rintro e w6 ⟨rfl,hx6⟩;have hs6:=hx6.size;(try simp at hs6);have HX6:=xY W3 hx6;have HD6:=hH (Qbm HD5.o HX6.o);have q0:=HD6.o.c0;have q1:=HD6.o.c1;have qf0:=HD6.o.fz 0;have qf1:=HD6.o.fz 1;obtain⟨qb0,qb1⟩:=cC2 hx6 w.heap.size (.slice a2 n2 c2) (.int .i64 d))))
   refine Qad (fun W7 eW7=> ?_);have HX7:=hH (show Ext W3 W7 by rw[eW7];exact HX6.o);have HD7:=hH (Qbm HD5.o HX7.o);have HM7:=hH (gMk.ext HMW.o HX7.o);have t0:=HD7.o.c0;have t1:=HD7.o.c1;have tf0:=HD7.o.fz 0;have tf1:=HD7.o.fz 1;obtain⟨tb0,tb1⟩:=rR2 eW7 w.heap.size (.slice a2 n2 c2) (.int .i64 d);have hs7:W3.heap.size≤W7.heap.size:=by rw[eW7];first|omega|(simp;omega)
   have hb7:=Qgo HD7.o;have hz7:w.heap.size<W7.heap.size:=oM;have hnz7:¬w.heap.size=W7.heap.size:=oM;have hnb7:¬b=W7.heap.size:=oM;clear eW7 q0 q1 qf0 qf1 qb0 qb1 HGO HD6 HX6 hx6;have HIN:=hH (fun(V:World) (hx:Ext W7 V) (vb:Nat) (hv:V.heap[vb]?=some (.cells #[.slice a2 n2 c2,.int .i64 d] 103 (0,0))) (hge:W7.heap.size≤vb)=>
    Qou (base:=B) (F:=fun j=>B≤j∧j≠b∧some j≠(Value.slice av nv cv).ownBlock) (G:=fun j=>w0.heap.size≤j∧j≤w.heap.size) (x:=(p,d)) (i:=pg) (Qai gMk HD7.o.og hx) HPL.o hn hv (gMk.ext HM7.o hx)
     (fun k hk hlt=>⟨⟨oM,oM,fun e=>(HD7.o.ra k e.symm).2.2 (HYM.o k hk.1 hk.2)⟩,fun e=>(HD7.o.rg k e.symm).2 (HYM.o k hk.1 hk.2)⟩) (fun e=>by have:=(Qak HD7.o.og vb e.symm).2;omega) ⟨oM,oM,fun e=>by have:=(Qak HD7.o.oa vb e.symm).2;omega⟩ (by have:=hx.size;omega))
   exact Zai
theorem Vb3 {e base:Nat} {F:Nat→Prop} {w:World} {a:Option Addr} {n c:Nat} {q:List At} (h:OSl RAt 3 e base F w (.slice a n c) q) {i:Nat} (hi:i<q.length):
  ∃g p d s ap cp,a=some ⟨g,0,none⟩∧base≤g∧g<w.heap.size∧q[i]?=some ((p,d),s)∧
   w.cell? ⟨g,i * 3,none⟩=some (.slice ap p.length cp)∧w.cell? ⟨g,i * 3+1,none⟩=some (.int .i64 d)∧w.cell? ⟨g,i * 3+2,none⟩=some (.int .u8 (s:UInt8).toNat)∧w.frozen? ⟨g,i * 3+2,none⟩=false:=by
 obtain⟨g,x,cs,_,ha,hb,hs,hx,_,hr,⟨v,rfl,h1,h2⟩,hf⟩:=Qlb h hi;obtain⟨ap,np,cp,rfl⟩:=h1.slice;obtain⟨rfl,_,_⟩:=h1.len;obtain⟨⟨p,d⟩,s⟩:=x;exact⟨g,p,d,s,ap,cp,ha,hb,hs,hx,by simpa using hr 0 _ rfl,by simpa [Nat.add_assoc] using hr 1 _ rfl,by simpa [Nat.add_assoc] using hr 2 _ rfl,hf _⟩
theorem Q66 {e base:Nat} {F:Nat→Prop} {w:World} {g n c:Nat} {q:List At} (h:OSl RAt 3 e base F w (.slice (some ⟨g,0,none⟩) n c) q) {i:Nat} (hi:i<q.length) {m:Mk} {s t:UInt8} (he:q[i]?=some (m,s)):
  OSl RAt 3 e base F (w.setCell ⟨g,i * 3+2,none⟩ (.int .u8 t.toNat)) (.slice (some ⟨g,0,none⟩) n c) (q.set i (m,t)):=by
 refine Qf4 gAt h hi oM (fun G W cs y hy hr=> ?_);rw[he] at hy;have:(m,s)=y:=by simpa using hy
 subst this;obtain⟨v,rfl,h1,h2⟩:=hr;exact⟨v,rfl,h1,h2⟩
theorem Vbs (x y:UInt8):(if y.toNat<x.toNat then((y.toNat:Nat):Int) else((x.toNat:Nat):Int))=(((mnS x y).toNat:Nat):Int):=by
 unfold mnS;by_cases h:y<x
 ·rw[if_pos h,if_pos (UInt8.lt_iff_toNat_lt.1 h)]
 ·rw[if_neg h,if_neg (fun h2=>h (UInt8.lt_iff_toNat_lt.2 h2))]
theorem Q23 {F1 F2:Nat→Prop} {w:World} {v u:Value} {l m:List At} (h:RSl RAt 3 F1 w v l) (k:RSl RAt 3 F2 w u m) (hl:Qec l) (hm:Qec m) (hl3:l.length≤300) (hm3:m.length≤300):
  Calls Tryz.prog 248 #[v,u] w (Q7x (Qcf l m) w):=by
 have HO1:=hH (fun(W:World) (hx:Ext w W)=>Qip (h.ext gAt hx) oM (fun a ha=>Qcn (hl.2 a ha).1));have HO2:=hH (fun(W:World) (hx:Ext w W)=>Qip (k.ext gAt hx) oM (fun a ha=>Qcn (hm.2 a ha).1));have HRL:=hH hl;have HRM:=hH hm;obtain⟨a0,n0,c0,rfl⟩:=h.slice;obtain⟨a1,n1,c1,rfl⟩:=k.slice;clear h k hl hm;go_enter Tryz.func248,Tryz.ntmps248;go_wp2_with (first
  |(go_at_call 193;(have HO1':=HO1);go_must ((with_reducible refine(HO1.o _ Qac).mono ?_);rintro e w1 ⟨v1,rfl,hv1,hx1⟩;clear HO1;have HV1:=hH hv1;obtain⟨a2,n2,c2,rfl⟩:=Qab hv1;have hz1:=hx1.size;have HB1':=hH (Qak hv1);clear hv1))
  |(go_at_call 193;go_must ((with_reducible refine(HO2.o _ Qac).mono ?_);rintro e w2 ⟨v2,rfl,hv2,hx2⟩;obtain⟨a3,n3,c3,rfl⟩:=Qab hv2;obtain rfl:n3=m.length:=(Qa2 hv2).1;have hz2:=hx2.size;have HM2:=hH (RSl.more (G:=fun j=>w1.heap.size≤j∧j<w2.heap.size) gAt (fun j hj hlt=>⟨hj,hlt⟩) (Qaz gAt hv2 (G:=fun j=>w1.heap.size≤j) (fun j hj _=>hj) (fun j hj=>hj)));clear hv2;have HV1x:=hH (Qai gAt HV1.o hx2);clear HV1;have HV1:=HV1x;clear HV1x;have HB1:Hid (∀j,(Value.slice a2 n2 c2).ownBlock=some j→j<w1.heap.size∨w2.heap.size≤j):=hH (fun j hj=> .inl (HB1'.o j hj).2))))
 go_loopw [5,15] (fun ov iv wr=>∃k:Nat,k≤m.length∧iv= .int .i64 k∧Hid (OSl RAt 3 129 w.heap.size (fun j=>w.heap.size≤j) wr ov (Qcf l (m.take k)))∧Hid (∀j,ov.ownBlock=some j→j<w1.heap.size∨w2.heap.size≤j)∧Hid (RSl RAt 3 (fun j=>w1.heap.size≤j∧j<w2.heap.size) wr (.slice a3 m.length c3) m)∧Hid (w2.heap.size≤wr.heap.size)∧Ext w wr) (fun _ iv _=>m.length-(intOf iv).toNat)
 case atStart=>exact⟨0,Nat.zero_le _,rfl,hH HV1.o,HB1,HM2,hH (Nat.le_refl _),ext_trans hx1 hx2⟩
 case round=>
  obtain⟨k,hk,rfl,HO,HB,HK,HS,hx⟩:=hrel;have hzr:=hx.size;have HX:=hH hx;have hs2:=HS.o;clear hx;obtain⟨a5,n5,c5,rfl⟩:=Qab HO.o;by_cases hlt:k<m.length
  ·obtain⟨b,o,p,d,s,ap,cp,rfl,hb,ek,ick,hpp,y0,y1,y2⟩:=Qcd HK.o hlt;have hra:=HRM.o.2 _ (List.mem_of_getElem? ek);have HEK:=hH (Qwe (l:=l) ek);have HRQ:=hH (Qio (m:=m.take k) HRL.o (fun a ha=>HRM.o.2 a (List.mem_of_mem_take ha)));have hql:(Qcf l (m.take k)).length≤600:=by have h1:=Qi8 (m.take k) l;rw[List.length_take] at h1;omega
   have HOL:=hH (Qak HO.o);have hnb:¬b=wr.heap.size:=oM;have HIC:=hH ick;have HPP:=hH hpp;generalize Qcf l (m.take k)=q at *;obtain rfl:n5=q.length:=(Qa2 HO.o).1;have HFD:=hH (fun(W:World) (hx:Ext wr W)=>Qkq (Qaz gAt (Qai gAt HO.o hx) (G:=fun _=>True) (fun _ _ _=>trivial) (fun _ _=>trivial)) (Qam (hpp.ext Qap hx) ick) HRQ.o.1 oM);clear ek ick hpp hra;cases hh:Qel q (p,d) with
   |false=>
    have HPN:=hH (Qx3 (a:=((p,d),s)) HRQ.o.1 hh);have hpl:=Q3k q (p,d);rw[hh] at HFD;simp only at HPN;generalize Qcv q (p,d)=i at *;clear hh;go_wp2_with (first
     |(go_at_call 221;go_must ((with_reducible refine(HFD.o _ Qac).mono ?_);rintro e w4 ⟨rfl,hx4⟩;have hz4:=hx4.size;(try simp at hz4);have hb4:=zL hx4 wr.heap.size;obtain⟨q0,q1,q2⟩:=cC3 hx4 (wr.heap.size) (.slice ap p.length cp) (.int .i64 d) (.int .u8 s.toNat)))
     |(go_at_call 257;go_must ((with_reducible refine(Qzc (base:=w.heap.size) (F:=fun j=>w.heap.size≤j) (G:=fun j=>(w1.heap.size≤j∧j<w2.heap.size)) (x:=((p,d),s)) (Qai gAt HO.o Qac) oM oM (Qen _ _) (Qm2 (HPP.o.ext Qap Qac) HIC.o) (fun j hj _=>⟨(show w.heap.size≤j by omega),fun e=>by have:=HB.o j e.symm;omega⟩) (fun e=>by have:=(HOL.o _ e.symm).2;omega) (show w.heap.size≤_ by omega) ltA).mono ?_);rintro e w5 ⟨v5,rfl,hv5,hg5,hat5⟩;obtain⟨a6,n6,c6,rfl⟩:=Qab hv5;have hx5:Ext w w5:=Qao (ext_trans HX.o Qac) hg5 (fun j hj=>(HOL.o j hj).1);have HK5:=hH (RSl.keep gAt ⟨hg5.size,fun j hj hlt=>hg5.block j hlt (fun e=>by obtain⟨g1,g2⟩:=hj;have:=HB.o j e.symm;omega)⟩ (HK.o.ext gAt Qac));have hs5:w2.heap.size≤w5.heap.size:=(by have:=hg5.size;first|omega|(simp at this;omega));have HB5:Hid (∀j,(Value.slice a6 n6 c6).ownBlock=some j→j<w1.heap.size∨w2.heap.size≤j):=hH (fun j hj=>hat5.elim (fun h=>HB.o j (h.symm.trans hj)) (fun h=> .inr (by have e:=Option.some.inj (h.symm.trans hj);first|omega|(simp at e;omega))));have HV5:=hH hv5;clear hv5 hg5 hat5)))
    go_roundw
    case rel=>exact⟨k+1,oM,by go_num,hH (by rw[HEK.o,HPN.o];exact HV5.o),HB5,HK5,hH hs5,hx5⟩
    case measure=>simp[intOf];omega
   |true=>
    obtain⟨x,hx1',hx2',hx3'⟩:=Qx0 (a:=((p,d),s)) HRQ.o.1 hh;rw[hh] at HFD;simp only at hx1' hx2' hx3';generalize Qcv q (p,d)=i at *;have hiq:i<q.length:=(List.getElem?_eq_some_iff.1 hx1').1;obtain⟨g,p5,d5,s5,ap5,cp5,rfl,hbg,hgs,ex5,z0,z1,z2,zf⟩:=Vb3 HO.o hiq;obtain rfl:x=((p5,d5),s5):=by rw[ex5] at hx1';exact(Option.some.inj hx1').symm
    have HPT:=hH (fun(W:World) (hx:Ext wr W)=>Q66 (t:=mnS s5 s) (Qai gAt HO.o hx) hiq ex5);have HPE:=hH hx3';have hmn:=Vbs s5 s;have hgb:=HB.o g rfl;have ii0:(0:Int)≤(i:Int):=Int.natCast_nonneg i;have ii1:(i:Int)<(q.length:Int):=Int.ofNat_lt.2 hiq;have hgn:¬g=wr.heap.size:=oM;have hgn':¬wr.heap.size=g:=oM;clear hh hx1' hx2' hx3' ex5;go_wp2_with (first
     |(go_at_call 221;go_must ((with_reducible refine(HFD.o _ Qac).mono ?_);rintro e w4 ⟨rfl,hx4⟩;have hz4:=hx4.size;(try simp at hz4);have hb4:=zL hx4 wr.heap.size;obtain⟨q0,q1,q2⟩:=cC3 hx4 (wr.heap.size) (.slice ap p.length cp) (.int .i64 d) (.int .u8 s.toNat);have q3:=cL hx4 (g) (i * 3+2) (.int .u8 s5.toNat);have qf0:=fL hx4 (g) (i * 3+2))))
    refine Qa4 10 fol kR (fun W hW=> ?_);subst hW;simp only[List.take_succ_cons,List.take_zero,List.drop_succ_cons,List.drop_zero];repeat(go_big_quiet_step (fail))
    refine wpQuiet_nil ?_;go_wp2_with fail
    go_roundw
    case rel=>
     (try rw[hmn])
     have hw4:Ext wr w4:=Qac;exact⟨k+1,oM,by go_num,hH (Qai gAt (by rw[HEK.o,HPE.o];exact HPT.o _ hw4) (ext_drew (ext_refl _))),hH (fun j hj=>HB.o j hj),hH (RSl.keep gAt (Qbh (Qae Qag (fun _ (hj:w1.heap.size≤g∧g<w2.heap.size)=>by omega) _)) (HK.o.ext gAt hw4)),hH (by have:=hw4.size;simp;omega),ext_drew (ext_set (ext_trans HX.o hw4) hbg _)⟩
    case measure=>simp[intOf];omega
  ·have hkl:k=m.length:=oM;subst hkl;have HF:=hH (show OSl RAt 3 129 w.heap.size (fun j=>w.heap.size≤j) wr (.slice a5 n5 c5) (Qcf l m) by have:=HO.o;rwa [List.take_of_length_le (Nat.le_refl _)] at this);go_wp2
   go_ret;exact⟨_,rfl,HF.o,HX.o⟩
end Go.Proofs.YtgnccjojfebkeaaGreat
