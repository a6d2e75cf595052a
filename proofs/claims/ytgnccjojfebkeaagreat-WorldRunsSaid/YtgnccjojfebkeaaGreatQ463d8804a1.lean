/- Slices that the call itself makes: what is appended to them, and how they read. (The words Reads and run_append_any are the guide's, to be copied.) -/
import Derived.Test.YtgnccjojfebkeaaGreatQb497ca1fba
import Derived.Maps.AppendAt
import Derived.Deep.AppendLies
import Derived.RegionTactic
import Derived.OwnWalk
import Derived.Laws.OwnMore
import Derived.Deep.RegionLaw
set_option linter.unusedVariables false
set_option linter.unusedSimpArgs false
set_option maxRecDepth 100000
set_option maxHeartbeats 4000000
namespace Cp
open Go Go.RowKit
def Q8q (w:World) (B size:Nat) (A:Option Addr) (n:Nat) (xs:List Value):Prop:=
 xs.length=n * size∧(0<n→∃ad,A=some ad∧ad.block<B∧∀j u,xs[j]?=some u→w.cell? (ad.add j)=some u)
section
variable {P:Program} (w:World)
theorem Qmg (base:Nat) (t ty e:TypeId) (i:TypeInfo) (size:Nat) (ht:P.underlying t=some (.slice e)) (hi:P.info? e=some i)
  (v:Value) (n:Nat) (xs:List Value) (hown:w.ownsRow base e size v n xs) (c:Nat):(Builtin.append_ #[t,t] ty #[v,.slice none 0 c]).run P w= .ok v w:=by
 rcases hown.2 with⟨rfl,rfl⟩|⟨g,cap,cur,rfl,_,_,hnc,_⟩
 ·simp[Builtin.append_,run_underlying ht,Go.sizeOf,typeInfo,hi,Builtin.lenOf,Builtin.firstCells]
 ·simp[Builtin.append_,run_underlying ht,Go.sizeOf,typeInfo,hi,Builtin.lenOf,Builtin.firstCells,hnc,storeCells]
theorem Qe0 (base:Nat) (t ty e:TypeId) (i:TypeInfo) (z:Value) (size bytes:Nat) (ht:P.underlying t=some (.slice e)) (hi:P.info? e=some i) (hz:i.zero=some z)
  (hsize:i.size=size) (hby:i.bytes=bytes) (hzs:z.cells.size=size) (hsz:0<size)
  (v:Value) (n:Nat) (xs:List Value) (hown:w.ownsRow base e size v n xs)
  (B:Nat) (A:Option Addr) (m c:Nat) (news:List Value) (hr:Q8q w B size A m news) (h1:∀u∈news,u.oneCell'=true)
  (h63:n+m≤maxLen) (hbytes:(n+m) * bytes≤140737488355328) (hbase:base≤w.heap.size):
  ∃v' w',(Builtin.append_ #[t,t] ty #[v,.slice A m c]).run P w= .ok v' w'∧w'.ownsRow base e size v' (n+m) (xs++news)∧w.grownBy w' v.ownBlock∧
   (v'.ownBlock=v.ownBlock∨v'.ownBlock=some w.heap.size):=by
 rcases A with _|ad
 ·have hm:m=0:=by
   rcases Nat.eq_zero_or_pos m with h0|h0
   ·exact h0
   ·obtain⟨ad,h,_⟩:=hr.2 h0;cases h
  subst hm;have hn:news=[]:=List.eq_nil_of_length_eq_zero (by simpa using hr.1);subst hn;exact⟨v,w,Qmg w base t ty e i size ht hi v n xs hown c,by simpa using hown,World.grownBy.refl w _,.inl rfl⟩
 ·have hcells:∀j u,news[j]?=some u→w.cell? (ad.add j)=some u:=by
   intro j u hu;rcases Nat.eq_zero_or_pos m with h0|h0
   ·subst h0;have hn:news=[]:=List.eq_nil_of_length_eq_zero (by simpa using hr.1);subst hn;simp at hu
   ·obtain⟨ad',h,_,hc⟩:=hr.2 h0;injection h with h
    subst h;exact hc j u hu
  obtain⟨v',w',hrun,h2,h3,_,h5⟩:=run_append_own_at (P:=P) w base t ty e i z size bytes ht hi hz hsize hby hzs hsz v n xs hown ad m c news hr.1 hcells h1 h63 hbytes hbase;exact⟨v',w',hrun,h2,h3,h5⟩
end
def Qcu {α:Type} (R:Rd α) (sz:Nat) (F:Nat→Prop) (w:World) (xs:List Value) (l:List α):Prop:=
 xs.length=l.length * sz∧∀i x,l[i]?=some x→R F w ((xs.drop (i * sz)).take sz) x
theorem Qfl {α:Type} {R:Rd α} {sz F w}:Qcu R sz F w [] ([]:List α):=⟨sI,sI⟩
theorem Qbv {α:Type} {R:Rd α} (g:Good R) {sz F w w' xs} {l:List α} (hk:Keeps F w w') (h:Qcu R sz F w xs l):Qcu R sz F w' xs l:=⟨h.1,fun i x hi=>g.keep hk (h.2 i x hi)⟩
theorem Qb7 {α:Type} {R:Rd α} (g:Good R) {sz F G w xs} {l:List α} (hg:∀k,F k→k<w.heap.size→G k) (h:Qcu R sz F w xs l):Qcu R sz G w xs l:=⟨h.1,fun i x hi=>g.more hg (h.2 i x hi)⟩
theorem Qcj {α:Type} {R:Rd α} {sz F w xs ys} {l m:List α} (h:Qcu R sz F w xs l) (k:Qcu R sz F w ys m):Qcu R sz F w (xs++ys) (l++m):=by
 refine⟨by rw[List.length_append,h.1,k.1,List.length_append,Nat.add_mul],fun i x hi=> ?_⟩;by_cases hlt:i<l.length
 ·rw[List.getElem?_append_left hlt] at hi;have h1:=h.2 i x hi;have hb:i * sz+sz≤xs.length:=by
   rw[h.1,←Nat.succ_mul];exact Nat.mul_le_mul_right _ hlt
  rw[List.drop_append_of_le_length oM,List.take_append_of_le_length sP];exact h1
 ·rw[List.getElem?_append_right oM] at hi;have h1:=k.2 _ x hi;have e:i * sz=xs.length+(i-l.length) * sz:=by
   rw[h.1,←Nat.add_mul];congr 1;omega
  rw[e,List.drop_append,List.drop_eq_nil_of_le oM,List.nil_append];simpa using h1
theorem Qbg {α:Type} {R:Rd α} {sz F w cs} {x:α} (hl:cs.length=sz) (h:R F w cs x):Qcu R sz F w cs [x]:=by
 refine⟨by simp[hl],fun i y hi=> ?_⟩;cases i with
 |zero=>
  have:x=y:=by simpa using hi
  subst this;simpa [List.take_of_length_le (Nat.le_of_eq hl)] using h
 |succ i=>simp at hi
theorem Qj0 {α:Type} {R:Rd α} {sz F w xs} {l:List α} {x:α} (h:Qcu R sz F w xs (x::l)):R F w (xs.take sz) x∧Qcu R sz F w (xs.drop sz) l:=by
 refine⟨by simpa using h.2 0 x rfl,by rw[List.length_drop,h.1,List.length_cons,Nat.succ_mul];omega,fun i y hi=> ?_⟩;have:=h.2 (i+1) y (by simpa using hi);rw[List.drop_drop]
 rwa [Nat.add_mul,Nat.one_mul,Nat.add_comm] at this
theorem Qrv {α:Type} {R:Rd α} {sz F w A n c} {l:List α} (h:RSl R sz F w (.slice A n c) l):
  ∃xs,Qcu R sz F w xs l∧Q8q w w.heap.size sz A n xs∧(0<n→∃b o,A=some ⟨b,o,none⟩∧F b∧b<w.heap.size∧w.rangeAt b o xs):=by
 obtain⟨a',cap',e,hc1,hc2,h3⟩:=h;injection e with e1 e2 e3
 subst e1;subst e2;subst e3;by_cases hne:l=[]
 ·subst hne;exact⟨[],Qfl,⟨sI,sI⟩,sI⟩
 obtain⟨b,o,rfl,hF,hl,hx⟩:=h3 hne;have key:∀(m:Nat),m≤l.length→∃xs,Qcu R sz F w xs (l.take m)∧w.rangeAt b o xs:=by
  intro m;induction m with
  |zero=>intro _;exact⟨[],by simpa using Qfl,by intro j v hv;simp at hv⟩
  |succ m ih=>
   intro hm;obtain⟨xs,c1,c2⟩:=ih oM;obtain⟨cs,d1,d2,d3⟩:=hx m l[m] (List.getElem?_eq_getElem oM);refine⟨xs++cs,?_,fun j v hv=> ?_⟩
   ·rw[List.take_succ_eq_append_getElem oM];exact Qcj c1 (Qbg d1 d3)
   ·have hxl:xs.length=m * sz:=by rw[c1.1,List.length_take];congr 1;omega
    by_cases hj:j<xs.length
    ·rw[List.getElem?_append_left hj] at hv;exact c2 j v hv
    ·rw[List.getElem?_append_right oM] at hv;have:=d2 _ v hv;rw[hxl] at this hj
     rwa [show o+m * sz+(j-m * sz)=o+j by omega] at this
 obtain⟨xs,c1,c2⟩:=key l.length (Nat.le_refl _);rw[List.take_of_length_le (Nat.le_refl _)] at c1;refine⟨xs,c1,⟨c1.1,fun _=>⟨_,rfl,hl,fun j u hu=> ?_⟩⟩,fun _=>⟨b,o,rfl,hF,hl,c2⟩⟩;rw[Addr.add_mid];exact c2 j u hu
theorem Qbe {α:Type} {R:Rd α} {sz F w b o c xs} {l:List α} (hr:w.rangeAt b o xs) (hc:Qcu R sz F w xs l) (hF:F b) (hb:b<w.heap.size) (h1:l.length≤c) (h2:c≤maxLen):
  RSl R sz F w (.slice (some ⟨b,o,none⟩) l.length c) l:=by
 refine⟨_,c,rfl,h1,h2,fun _=>⟨b,o,rfl,hF,hb,fun i x hi=>⟨(xs.drop (i * sz)).take sz,?_,fun j v hv=> ?_,hc.2 i x hi⟩⟩⟩
 ·have hi':i<l.length:=(List.getElem?_eq_some_iff.1 hi).1;have:i * sz+sz≤xs.length:=by rw[hc.1,←Nat.succ_mul];exact Nat.mul_le_mul_right _ hi'
  simp;omega
 ·by_cases hj:j<sz
  ·rw[List.getElem?_take_of_lt hj,List.getElem?_drop] at hv;have:=hr _ v hv
   rwa [←Nat.add_assoc] at this
  ·rw[List.getElem?_eq_none sP] at hv;cases hv
def OSl {α:Type} (R:Rd α) (sz:Nat) (e:TypeId) (base:Nat) (F:Nat→Prop) (w:World) (v:Value) (l:List α):Prop:=
 ∃xs,w.ownsRow base e sz v l.length xs∧Qcu R sz (fun k=>F k∧some k≠v.ownBlock) w xs l
theorem Qbn {α:Type} {R:Rd α} {sz e base F w}:OSl R sz e base F w (.slice none 0 0) ([]:List α):=⟨[],⟨sI,.inl ⟨rfl,rfl⟩⟩,Qfl⟩
theorem Qq1 {w:World} {base e sz n:Nat} {v:Value} {xs:List Value} (h:w.ownsRow base e sz v n xs):∀k,v.ownBlock=some k→base≤k∧k<w.heap.size:=by
 intro k hk;rcases h.2 with⟨rfl,_⟩|⟨g,cap,cur,rfl,hg,hh,_⟩
 ·simp[Value.ownBlock] at hk
 ·have:g=k:=by simpa [Value.ownBlock] using hk
  subst this;refine⟨hg,?_⟩;rcases Nat.lt_or_ge g w.heap.size with h|h
  ·exact h
  ·rw[Array.getElem?_eq_none h] at hh;cases hh
theorem Qak {α:Type} {R:Rd α} {sz e base F w v} {l:List α} (h:OSl R sz e base F w v l):∀k,v.ownBlock=some k→base≤k∧k<w.heap.size:=by
 obtain⟨xs,h1,_⟩:=h;exact Qq1 h1
theorem Zbb {p:Prop} (h:p:=by
 rw[Nat.zero_add,cell_of_row w b j cur e (0,0) hh];rw[←htk] at hv;have hj:j<l.length * sz:=by
  rcases Nat.lt_or_ge j (l.length * sz) with h|h
  ·exact h
  ·rw[List.getElem?_eq_none sP] at hv;cases hv
 rw[List.getElem?_take_of_lt hj] at hv;simpa using hv):p:=h
theorem Qaz {α:Type} {R:Rd α} (g:Good R) {sz e base F w v} {l:List α} (h:OSl R sz e base F w v l) {G:Nat→Prop} (hG:∀k,F k→k<w.heap.size→G k) (hb:∀k,base≤k→G k):RSl R sz G w v l:=by
 obtain⟨xs,h1,h2⟩:=h;have h2':=Qb7 g (G:=G) (fun k hk hl=>hG k hk.1 hl) h2;rcases h1.2 with⟨rfl,h0⟩|⟨b,cap,cur,rfl,hg,hh,hn,hcap,hsz,htk⟩
 ·have:l=[]:=List.eq_nil_of_length_eq_zero h0;subst this;exact RSl.nil_ (Nat.zero_le _)
 ·have hlt:=(Qq1 h1 b rfl).2;refine Qbe (xs:=xs) (fun j v hv=> ?_) h2' (hb b hg) hlt hn hcap;exact Zbb
theorem Qa8 {α:Type} {R:Rd α} (g:Good R) {sz e base F w w' v} {l:List α} (h:OSl R sz e base F w v l) (hk:Keeps (fun k=>F k∨some k=v.ownBlock) w w'):OSl R sz e base F w' v l:=by
 obtain⟨xs,h1,h2⟩:=h;refine⟨xs,⟨h1.1,?_⟩,Qbv g (hk.weaken (fun k _ hk=> .inl hk.1)) h2⟩;rcases h1.2 with h0|⟨b,cap,cur,rfl,hg,hh,hn,hcap,hsz,htk⟩
 ·exact .inl h0
 ·exact .inr ⟨b,cap,cur,rfl,hg,(hk.block b (.inr rfl) (Qq1 h1 b rfl).2).trans hh,hn,hcap,hsz,htk⟩
theorem Qai {α:Type} {R:Rd α} (g:Good R) {sz e base F w w' v} {l:List α} (h:OSl R sz e base F w v l) (hk:Ext w w'):OSl R sz e base F w' v l:=Qa8 g h (.of_below hk)
theorem Za9 {p:Prop} (h:p:=by
 rw[hat];have hc':=Qb7 g (G:=fun k=>(F k∧some k≠v.ownBlock)∧k<w.heap.size) (fun k hk hl=>⟨hk,hl⟩) hc;have hc2:=Qbv g (hk.weaken (G:=fun k=>(F k∧some k≠v.ownBlock)∧k<w.heap.size) (fun k _ h=>h.1)) hc';exact Qb7 g (fun k hk _=>⟨hk.1.1,fun e=>by injection e with e;omega⟩) hc2):p:=h
theorem Qxw {α:Type} {R:Rd α} (g:Good R) {sz e base F G w w' v v'} {l:List α} {x:α} {cs xs:List Value} (_h1:w.ownsRow base e sz v l.length xs) (h2:Qcu R sz (fun k=>F k∧some k≠v.ownBlock) w xs l)
  (hR:R G w cs x) (hcs:cs.length=sz) (hG:∀k,G k→k<w.heap.size→F k∧some k≠v.ownBlock)
  (hown:w'.ownsRow base e sz v' (l.length+1) (xs++cs)) (hg:w.grownBy w' v.ownBlock) (hat:v'.ownBlock=v.ownBlock∨v'.ownBlock=some w.heap.size):OSl R sz e base F w' v' (l++[x]):=by
 have hk:Keeps (fun k=>F k∧some k≠v.ownBlock) w w':=⟨hg.size,fun k hk hl=>hg.block k hl hk.2⟩;refine⟨xs++cs,by simpa using hown,?_⟩;have hc:Qcu R sz (fun k=>F k∧some k≠v.ownBlock) w (xs++cs) (l++[x]):=Qcj h2 (Qbg hcs (g.more hG hR));rcases hat with hat|hat
 ·rw[hat];exact Qbv g hk hc
 ·exact Za9
theorem Qds {α:Type} {P:Program} {ops:Array Oper} {rest:List Oper} {o:Oper} {a:Act} {Q:Exit→Act→World→Prop} {w:World} {R:Rd α} (g:Good R) (hgd:o.guard=none) (s x:Operand) (t:TypeId)
  (ho:o.op= .call {callee:= .builtin .append,args:=#[s,x],argTypes:=#[t,t]})
  (base:Nat) (e:TypeId) (i:TypeInfo) (z:Value) (sz bytes:Nat) (ht:P.underlying t=some (.slice e)) (hi:P.info? e=some i) (hz:i.zero=some z)
  (hsize:i.size=sz) (hby:i.bytes=bytes) (hzs:z.cells.size=sz) (hsz:0<sz)
  {F G:Nat→Prop} (v:Value) (l:List α) (hs:a.eval s=v) (hown:OSl R sz e base F w v l)
  (b off c:Nat) (cs:List Value) (y:α) (hx:a.eval x= .slice (some ⟨b,off,none⟩) 1 c) (hcs:cs.length=sz) (hcell:w.rangeAt b off cs) (h1:∀u∈cs,u.oneCell'=true)
  (hR:R G w cs y) (hG:∀k,G k→k<w.heap.size→F k∧some k≠v.ownBlock)
  (h63:l.length+1≤maxLen) (hbytes:(l.length+1) * bytes≤140737488355328) (hbase:base≤w.heap.size)
  (h:∀v' w',OSl R sz e base F w' v' (l++[y])→w.grownBy w' v.ownBlock→(v'.ownBlock=v.ownBlock∨v'.ownBlock=some w.heap.size)→wpList P ops Q rest (a.put o.dst v') w'):wpList P ops Q (o::rest) a w:=by
 obtain⟨xs,o1,o2⟩:=hown;refine wpList_plain hgd fun _ hK=> ?_
 obtain⟨v',w',hrun,h2,h3,h4⟩:=Qe0 (P:=P) w base t o.type e i z sz bytes ht hi hz hsize hby hzs hsz v l.length xs o1 w.heap.size (some ⟨b,off,none⟩) 1 c cs
  ⟨oM,fun _=>⟨_,rfl,by
   have:0<cs.length:=oM;exact World.block_lt_of_cell? _ _ (hcell 0 cs[0] (List.getElem?_eq_getElem this)),fun j u hu=>by rw[Addr.add_mid];exact hcell j u hu⟩⟩ h1 h63 hbytes hbase
 unfold Oper.wp execOp;simp only[ho,resolve,invoke,builtin,Sem.run_bind,Sem.run_pure,Result.andThen_ok,List.map_toArray,List.map_cons,List.map_nil,hs,hx,hrun];exact hK _ _ (h v' w' (Qxw g o1 o2 hR hcs hG h2 h3 h4) h3 h4)
theorem Qu1 {α:Type} {P:Program} {o:Oper} {a:Act} {K:Act→World→Prop} {Q:Exit→Act→World→Prop} {w:World} {R:Rd α} (g:Good R) (s x:Operand) (t:TypeId)
  (ho:o.op= .call {callee:= .builtin .append,args:=#[s,x],argTypes:=#[t,t]})
  (base:Nat) (e:TypeId) (i:TypeInfo) (z:Value) (sz bytes:Nat) (ht:P.underlying t=some (.slice e)) (hi:P.info? e=some i) (hz:i.zero=some z)
  (hsize:i.size=sz) (hby:i.bytes=bytes) (hzs:z.cells.size=sz) (hsz:0<sz)
  {F G:Nat→Prop} (v:Value) (l:List α) (hs:a.eval s=v) (hown:OSl R sz e base F w v l)
  (u:Value) (m:List α) (hx:a.eval x=u) (hm:RSl R sz G w u m) (h1:∀F w cs y,R F w cs y→∀u∈cs,u.oneCell'=true) (hG:∀k,G k→k<w.heap.size→F k∧some k≠v.ownBlock)
  (h63:l.length+m.length≤maxLen) (hbytes:(l.length+m.length) * bytes≤140737488355328) (hbase:base≤w.heap.size)
  (h:∀v' w',OSl R sz e base F w' v' (l++m)→w.grownBy w' v.ownBlock→(v'.ownBlock=v.ownBlock∨v'.ownBlock=some w.heap.size)→K (a.put o.dst v') w'):o.wp P a w K Q:=by
 obtain⟨xs,o1,o2⟩:=hown;obtain⟨A,n,c,rfl⟩:=hm.slice;obtain⟨rfl,_,_⟩:=hm.len;obtain⟨ys,c1,c2,_⟩:=Qrv hm;have hone:∀u∈ys,u.oneCell'=true:=by
  intro u hu;obtain⟨j,hj,rfl⟩:=List.getElem_of_mem hu;have hjl:j / sz<m.length:=by
   rw[c1.1] at hj;exact Nat.div_lt_of_lt_mul (by rwa [Nat.mul_comm])
  have:=h1 _ _ _ _ (c1.2 (j / sz) _ (List.getElem?_eq_getElem hjl)) ys[j];apply this
  have hd:j=j / sz * sz+j % sz:=by rw[Nat.mul_comm];exact(Nat.div_add_mod j sz).symm
  have hlt:j % sz<sz:=Nat.mod_lt _ hsz;rw[List.mem_iff_getElem?];refine⟨j % sz,?_⟩;rw[List.getElem?_take_of_lt hlt,List.getElem?_drop,←hd,List.getElem?_eq_getElem hj]
 obtain⟨v',w',hrun,h2,h3,h4⟩:=Qe0 (P:=P) w base t o.type e i z sz bytes ht hi hz hsize hby hzs hsz v l.length xs o1 w.heap.size A m.length c ys c2 hone h63 hbytes hbase;unfold Oper.wp execOp;simp only[ho,resolve,invoke,builtin,Sem.run_bind,Sem.run_pure,Result.andThen_ok,List.map_toArray,List.map_cons,List.map_nil,hs,hx,hrun];refine h v' w' ?_ h3 h4;have hk:Keeps (fun k=>F k∧some k≠v.ownBlock) w w':=⟨h3.size,fun k hk hl=>h3.block k hl hk.2⟩;refine⟨xs++ys,by simpa using h2,?_⟩;have hc:Qcu R sz (fun k=>F k∧some k≠v.ownBlock) w (xs++ys) (l++m):=Qcj o2 (Qb7 g hG c1);rcases h4 with hat|hat
 ·rw[hat];exact Qbv g hk hc
 ·exact Za9
theorem Qaj {α:Type} {P:Program} {ops:Array Oper} {rest:List Oper} {o:Oper} {a:Act} {Q:Exit→Act→World→Prop} {w:World} {R:Rd α} (g:Good R) (hgd:o.guard=none) (s x:Operand) (t:TypeId)
  (ho:o.op= .call {callee:= .builtin .append,args:=#[s,x],argTypes:=#[t,t]})
  (base:Nat) (e:TypeId) (i:TypeInfo) (z:Value) (sz bytes:Nat) (ht:P.underlying t=some (.slice e)) (hi:P.info? e=some i) (hz:i.zero=some z)
  (hsize:i.size=sz) (hby:i.bytes=bytes) (hzs:z.cells.size=sz) (hsz:0<sz)
  {F G:Nat→Prop} (v:Value) (l:List α) (hs:a.eval s=v) (hown:OSl R sz e base F w v l)
  (u:Value) (m:List α) (hx:a.eval x=u) (hm:RSl R sz G w u m) (h1:∀F w cs y,R F w cs y→∀u∈cs,u.oneCell'=true) (hG:∀k,G k→k<w.heap.size→F k∧some k≠v.ownBlock)
  (h63:l.length+m.length≤maxLen) (hbytes:(l.length+m.length) * bytes≤140737488355328) (hbase:base≤w.heap.size)
  (h:∀v' w',OSl R sz e base F w' v' (l++m)→w.grownBy w' v.ownBlock→(v'.ownBlock=v.ownBlock∨v'.ownBlock=some w.heap.size)→wpList P ops Q rest (a.put o.dst v') w'):wpList P ops Q (o::rest) a w:=
 wpList_plain hgd fun _ hK=>Qu1 g s x t ho base e i z sz bytes ht hi hz hsize hby hzs hsz v l hs hown u m hx hm h1 hG h63 hbytes hbase fun v' w' h2 h3 h4=>hK _ _ (h v' w' h2 h3 h4)
theorem Qa7 {α:Type} {P:Program} {ops:Array Oper} {o:Oper} {a:Act} {K:Act→World→Prop} {Q:Exit→Act→World→Prop} {E:Prop} {w:World} {R:Rd α} (g:Good R) (hgd:o.guard=none) (s x:Operand) (t:TypeId)
  (ho:o.op= .call {callee:= .builtin .append,args:=#[s,x],argTypes:=#[t,t]})
  (base:Nat) (e:TypeId) (i:TypeInfo) (z:Value) (sz bytes:Nat) (ht:P.underlying t=some (.slice e)) (hi:P.info? e=some i) (hz:i.zero=some z)
  (hsize:i.size=sz) (hby:i.bytes=bytes) (hzs:z.cells.size=sz) (hsz:0<sz)
  {F G:Nat→Prop} (v:Value) (l:List α) (hs:a.eval s=v) (hown:OSl R sz e base F w v l)
  (u:Value) (m:List α) (hx:a.eval x=u) (hm:RSl R sz G w u m) (h1:∀F w cs y,R F w cs y→∀u∈cs,u.oneCell'=true) (hG:∀k,G k→k<w.heap.size→F k∧some k≠v.ownBlock)
  (h63:l.length+m.length≤maxLen) (hbytes:(l.length+m.length) * bytes≤140737488355328) (hbase:base≤w.heap.size)
  (h:∀v' w',OSl R sz e base F w' v' (l++m)→w.grownBy w' v.ownBlock→(v'.ownBlock=v.ownBlock∨v'.ownBlock=some w.heap.size)→K (a.put o.dst v') w'):if Region.wanted o (yielded ops a.tmps)=true then Oper.wp P o a w K Q else E:=by
 have hw:Region.wanted o (yielded ops a.tmps)=true:=by simp[Region.wanted,hgd]
 rw[if_pos hw];exact Qu1 g s x t ho base e i z sz bytes ht hi hz hsize hby hzs hsz v l hs hown u m hx hm h1 hG h63 hbytes hbase h
theorem Qf3 {α:Type} {R:Rd α} (hR:∀F G w cs x,R F w cs x→R G w cs x) {sz e base F G w v} {l:List α} (h:OSl R sz e base F w v l):OSl R sz e base G w v l:=by
 obtain⟨xs,h1,h2⟩:=h;exact⟨xs,h1,h2.1,fun i x hi=>hR _ _ _ _ _ (h2.2 i x hi)⟩
theorem Qi5:∀F G w cs (x:Stp),Qdt F w cs x→Qdt G w cs x:=fun _ _ _ _ _ h=>h
theorem Qkx:∀F G w cs (x:Int),Qe1 F w cs x→Qe1 G w cs x:=fun _ _ _ _ _ h=>h
theorem Q3g {α:Type} {R:Rd α} {sz e:Nat} {F:Nat→Prop} {w:World}:OSl R sz e w.heap.size F (w.alloc (.cells #[] e)) (.slice (some ⟨w.heap.size,0,none⟩) 0 0) ([]:List α):=
 ⟨[],⟨sI,.inr ⟨w.heap.size,0,#[],rfl,Nat.le_refl _,heap_alloc_new w _,Nat.le_refl _,Nat.zero_le _,sI,sI⟩⟩,Qfl⟩
theorem Qg1 {α:Type} {R:Rd α} {sz e base:Nat} {F:Nat→Prop} {w:World} {g:Nat} (hg:w.heap.size=g) (hb:base≤g):OSl R sz e base F (w.alloc (.cells #[] e)) (.slice (some ⟨g,0,none⟩) 0 0) ([]:List α):=by
 subst hg;exact⟨[],⟨sI,.inr ⟨w.heap.size,0,#[],rfl,hb,heap_alloc_new w _,Nat.le_refl _,Nat.zero_le _,sI,sI⟩⟩,Qfl⟩
theorem Qcr {w w':World} {g n c:Nat} (hg:w.grownBy w' (Value.slice (some ⟨g,0,none⟩) n c).ownBlock):∀b o,b<w.heap.size→¬b=g→w'.cell? ⟨b,o,none⟩=w.cell? ⟨b,o,none⟩:=
 fun b o hb hne=>World.cell?_of_block (hg.block b hb (fun e=>hne (by simpa [Value.ownBlock] using e)))
theorem Qts {w w':World} {g n c:Nat} (hg:w.grownBy w' (Value.slice (some ⟨g,0,none⟩) n c).ownBlock):∀b o,b<w.heap.size→¬b=g→w'.frozen? ⟨b,o,none⟩=w.frozen? ⟨b,o,none⟩:=
 fun b o hb hne=>World.frozen?_of_block (hg.block b hb (fun e=>hne (by simpa [Value.ownBlock] using e)))
theorem Qo1 {k n:Nat} (h:k<n) {l c:Nat}:some k≠(Value.slice (some ⟨n,0,none⟩) l c).ownBlock:=fun e=>by
 have:k=n:=by simpa [Value.ownBlock] using e
 omega
theorem Qm1 {k n:Nat} {l c:Nat} (h:(Value.slice (some ⟨n,0,none⟩) l c).ownBlock=some k):n=k:=by simpa [Value.ownBlock] using h
theorem Ql8:∀F w cs (y:Stp),Qdt F w cs y→∀u∈cs,u.oneCell'=true:=by
 rintro F w cs y ⟨rfl,_,_⟩ u hu;simp at hu;rcases hu with rfl|rfl<;>rfl
theorem Q3a:∀F w cs (y:Int),Qe1 F w cs y→∀u∈cs,u.oneCell'=true:=by
 rintro F w cs y ⟨rfl,_⟩ u hu;simp at hu;subst hu;rfl
theorem RSl.one {α:Type} {R:Rd α} {sz F w v} {l:List α} (h:RSl R sz F w v l):v.oneCell'=true:=by
 obtain⟨a,c,rfl,_⟩:=h;rfl
theorem Qf1:∀F w cs (y:Mk),RMk F w cs y→∀u∈cs,u.oneCell'=true:=by
 rintro F w cs y ⟨v,rfl,h,_⟩ u hu;simp at hu;rcases hu with rfl|rfl
 ·exact h.one
 ·rfl
theorem Qe7:∀F w cs (y:At),RAt F w cs y→∀u∈cs,u.oneCell'=true:=by
 rintro F w cs y ⟨v,rfl,h,_⟩ u hu;simp at hu;rcases hu with rfl|rfl|rfl
 ·exact h.one
 ·rfl
 ·rfl
theorem Qlb {α:Type} {R:Rd α} {sz e base F w a n c} {l:List α} (h:OSl R sz e base F w (.slice a n c) l) {i:Nat} (hi:i<l.length):
  ∃g x cs,n=l.length∧a=some ⟨g,0,none⟩∧base≤g∧g<w.heap.size∧l[i]?=some x∧cs.length=sz∧w.rangeAt g (i * sz) cs∧R (fun k=>F k∧k≠g) w cs x∧∀o,w.frozen? ⟨g,o,none⟩=false:=by
 obtain⟨xs,h1,h2⟩:=h;have hx:=h2.2 i l[i] (List.getElem?_eq_getElem hi);have hb:i * sz+sz≤xs.length:=by rw[h2.1,←Nat.succ_mul];exact Nat.mul_le_mul_right _ hi
 rcases h1.2 with⟨_,h0⟩|⟨g,cap,cur,hv,hg,hh,hn,hcap,hsz,htk⟩
 ·omega
 ·injection hv with e1 e2 e3
  subst e1;subst e2;subst e3;refine⟨g,l[i],(xs.drop (i * sz)).take sz,rfl,rfl,hg,(Qq1 h1 g rfl).2,List.getElem?_eq_getElem hi,sP,fun j v hv=> ?_,?_,fun o=>World.ownsRow.frozenAt h1 o⟩
  ·have hj:j<sz:=by
    rcases Nat.lt_or_ge j sz with h|h
    ·exact h
    ·rw[List.getElem?_eq_none sP] at hv;cases hv
   rw[List.getElem?_take_of_lt hj,List.getElem?_drop] at hv;rw[World.ownsRow.cellAt h1 _ (by rw[←h2.1];omega)];exact hv
  ·have:(fun k=>F k∧some k≠(Value.slice (some ⟨g,0,none⟩) l.length c).ownBlock)=(fun k=>F k∧k≠g):=by
    funext k;simp[Value.ownBlock]
   rw[this] at hx;exact hx
theorem Qa2 {α:Type} {R:Rd α} {sz e base F w a n c} {l:List α} (h:OSl R sz e base F w (.slice a n c) l):n=l.length∧n≤c∧c≤maxLen:=by
 obtain⟨xs,h1,_⟩:=h;rcases h1.2 with⟨hv,h0⟩|⟨g,cap,cur,hv,hg,hh,hn,hcap,hsz,htk⟩
 ·injection hv with e1 e2 e3
  exact⟨oM,oM,by subst e3;exact Nat.zero_le _⟩
 ·injection hv with e1 e2 e3
  subst e2;subst e3;exact⟨rfl,hn,hcap⟩
theorem Qab {α:Type} {R:Rd α} {sz e base F w v} {l:List α} (h:OSl R sz e base F w v l):∃a n c,v= .slice a n c:=by
 obtain⟨xs,h1,_⟩:=h;rcases h1.2 with⟨rfl,_⟩|⟨g,cap,cur,rfl,_⟩
 ·exact⟨_,_,_,rfl⟩
 ·exact⟨_,_,_,rfl⟩
theorem Qf4 {α:Type} {R:Rd α} (g:Good R) {sz e base F w b n c} {l:List α} (h:OSl R sz e base F w (.slice (some ⟨b,0,none⟩) n c) l) {i j:Nat} (hi:i<l.length) (hj:j<sz) {u:Value} {x:α}
  (hu:∀G W cs y,l[i]?=some y→R G W cs y→R G W (cs.set j u) x):OSl R sz e base F (w.setCell ⟨b,i * sz+j,none⟩ u) (.slice (some ⟨b,0,none⟩) n c) (l.set i x):=by
 obtain⟨xs,h1,h2⟩:=h;have hn:n=l.length:=by
  rcases h1.2 with⟨hv,_⟩|⟨g,cap,cur,hv,_⟩
  ·injection hv with e1;cases e1
  ·injection hv
 subst hn;have hst:=World.ownsRow.stored h1 (i * sz+j) u;refine⟨xs.set (i * sz+j) u,by simpa using hst.1,by simp[h2.1],fun k y hk=> ?_⟩;have hkeep:Keeps (fun k=>F k∧some k≠(Value.slice (some ⟨b,0,none⟩) l.length c).ownBlock) w (w.setCell ⟨b,i * sz+j,none⟩ u):=
  Qae Qag (fun _ hp=>hp.2 rfl) _
 by_cases hki:k=i
 ·subst hki;rw[List.getElem?_set_self hi] at hk;have:x=y:=by simpa using hk
  subst this;have h3:=hu _ _ _ _ (List.getElem?_eq_getElem hi) (g.keep hkeep (h2.2 k l[k] (List.getElem?_eq_getElem hi)));have e:((xs.set (k * sz+j) u).drop (k * sz)).take sz=((xs.drop (k * sz)).take sz).set j u:=by
   rw[List.drop_set,if_neg oM,List.take_set];congr 1;omega
  rw[e];exact h3
 ·rw[List.getElem?_set_ne (Ne.symm hki)] at hk;have h3:=g.keep hkeep (h2.2 k y hk);have e:((xs.set (i * sz+j) u).drop (k * sz)).take sz=(xs.drop (k * sz)).take sz:=by
   apply List.ext_getElem?
   intro m;by_cases hm:m<sz
   ·rw[List.getElem?_take_of_lt hm,List.getElem?_take_of_lt hm,List.getElem?_drop,List.getElem?_drop,List.getElem?_set_ne];intro hc;rcases Nat.lt_or_gt_of_ne hki with h|h
    ·have:(k+1) * sz≤i * sz:=Nat.mul_le_mul_right _ h;rw[Nat.succ_mul] at this;omega
    ·have:(i+1) * sz≤k * sz:=Nat.mul_le_mul_right _ h;rw[Nat.succ_mul] at this;omega
   ·rw[List.getElem?_eq_none sP,List.getElem?_eq_none sP]
  rw[e];exact h3
theorem Q6x {α:Type} {R:Rd α} (g:Good R) {sz e base F w b n c} {l:List α} (h:OSl R sz e base F w (.slice (some ⟨b,0,none⟩) n c) l) {i:Nat} (hi:i<l.length) (hj:0<sz) {u:Value} {x:α}
  (hu:∀G W cs y,l[i]?=some y→R G W cs y→R G W (cs.set 0 u) x):OSl R sz e base F (w.setCell ⟨b,i * sz,none⟩ u) (.slice (some ⟨b,0,none⟩) n c) (l.set i x):=Qf4 g h (j:=0) hi hj hu
theorem Qcx {α:Type} {R:Rd α} {sz e base base' F w v} {l:List α} (hb:base'≤base) (h:OSl R sz e base F w v l):OSl R sz e base' F w v l:=by
 obtain⟨xs,h1,h2⟩:=h;refine⟨xs,⟨h1.1,?_⟩,h2⟩;rcases h1.2 with h0|⟨b,cap,cur,rfl,hg,hh⟩
 ·exact .inl h0
 ·exact .inr ⟨b,cap,cur,rfl,Nat.le_trans hb hg,hh⟩
theorem Qxv {α:Type} {R:Rd α} (hR:∀F G w w' cs x,R F w cs x→R G w' cs x) {sz e base base' F G w w' v} {l:List α} (h:OSl R sz e base F w v l) (hk:Keeps (fun k=>base≤k) w w') (hb:base'≤base):OSl R sz e base' G w' v l:=by
 obtain⟨xs,h1,h2⟩:=h;refine⟨xs,⟨h1.1,?_⟩,h2.1,fun i x hi=>hR _ _ _ _ _ _ (h2.2 i x hi)⟩;rcases h1.2 with h0|⟨b,cap,cur,rfl,hg,hh,hr⟩
 ·exact .inl h0
 ·exact .inr ⟨b,cap,cur,rfl,Nat.le_trans hb hg,(hk.block b hg (Qq1 h1 b rfl).2).trans hh,hr⟩
theorem Qxm:∀F G w w' cs (x:Stp),Qdt F w cs x→Qdt G w' cs x:=fun _ _ _ _ _ _ h=>h
theorem Qqt:∀F G w w' cs (x:Int),Qe1 F w cs x→Qe1 G w' cs x:=fun _ _ _ _ _ _ h=>h
theorem Qe8 {α:Type} {R:Rd α} (hR:∀F G w w' cs x,R F w cs x→R G w' cs x) {sz e base F w w' v} {l:List α} (h:OSl R sz e base F w v l) (hk:∀k,v.ownBlock=some k→w'.heap[k]?=w.heap[k]?):OSl R sz e base F w' v l:=by
 obtain⟨xs,h1,h2⟩:=h;refine⟨xs,⟨h1.1,?_⟩,h2.1,fun i x hi=>hR _ _ _ _ _ _ (h2.2 i x hi)⟩;rcases h1.2 with h0|⟨b,cap,cur,rfl,hg,hh,hr⟩
 ·exact .inl h0
 ·exact .inr ⟨b,cap,cur,rfl,hg,(hk b rfl).trans hh,hr⟩
theorem Qhx {α:Type} {R:Rd α} (hR:∀F G w w' cs x,R F w cs x→R G w' cs x) {sz e base F w g n c} {l:List α} {p:Addr} (hp:¬p.block=g) (h:OSl R sz e base F w (.slice (some ⟨g,0,none⟩) n c) l) (u:Value):
  OSl R sz e base F (w.setCell p u) (.slice (some ⟨g,0,none⟩) n c) l:=
 Qe8 hR h fun k hk=>Below.heap_setCell w p u k (fun e=>hp (by rw[←e];exact(by simpa [Value.ownBlock] using hk.symm)))
theorem Qzq {α:Type} {R:Rd α} (hR:∀F G w w' cs x,R F w cs x→R G w' cs x) {sz e base F w v} {l:List α} (h:OSl R sz e base F w v l) (o:Obj):OSl R sz e base F (w.alloc o) v l:=
 Qe8 hR h fun k hk=>Below.heap_alloc w o k (Qak h k hk).2
def OMk (e:TypeId) (base:Nat) (w:World) (cs:List Value) (m:Mk):Prop:=∃v,cs=[v,.int .i64 m.2]∧OSl Qdt 2 e base (fun _=>True) w v m.1∧I64 m.2
theorem Qem {e base w cs m} (h:OMk e base w cs m):RMk (fun k=>base≤k) w cs m:=by
 obtain⟨v,rfl,h1,h2⟩:=h;exact⟨v,rfl,Qaz Qap (Qf3 Qi5 (G:=fun k=>base≤k) h1) (fun k hk _=>hk) (fun k hk=>hk),h2⟩
theorem Qao {a w w':World} {v:Value} (h:Ext a w) (hg:w.grownBy w' v.ownBlock) (hr:∀k,v.ownBlock=some k→a.heap.size≤k):Ext a w':=Qd5 h hg hr
end Cp
namespace Go.Proofs.YtgnccjojfebkeaaGreat
open Go Go.RowKit Cp
theorem Qkt:(Tryz.prog.info? 196).map (fun i=>(i.zero,i.size,i.bytes))=some (some (.agg #[.int .i64 0,.int .i64 0]),2,16):=kR
def Q8p (l:List Stp) (w:World) (e:Ending) (w':World):Prop:=∃v,e= .returned v∧OSl Qdt 2 196 w.heap.size (fun _=>True) w' v l∧Ext w w'
def Q0r (m:Mk) (w:World) (e:Ending) (w':World):Prop:=∃cs,e= .returned (.agg cs.toArray)∧OMk 196 w.heap.size w' cs m∧Ext w w'
theorem Qex {F:Nat→Prop} {w:World} {v:Value} {l:List Stp} (h:RSl Qdt 2 F w v l) (hsz:l.length≤8000000000000):
  Calls Tryz.prog 225 #[v] w (Q8p l w):=by
 obtain⟨a1,n1,c1,rfl⟩:=h.slice;obtain⟨rfl,k1,k1'⟩:=h.len;have hnil:=fun(W:World) (a:Option Addr) (n c:Nat)=>Lib.run_eql_slice_nil (P:=Tryz.prog) W 101 196 a n c 0 0 Tryz.underlying101
 obtain⟨i0,hi,hz0,hz1,hz2⟩:=info_parts Qkt;cases a1 with
 |none=>
  have e0:l=[]:=by
   cases l with
   |nil=>rfl
   |cons a r=>obtain⟨b,o,x,cs,e,_⟩:=h.at_ (i:=0) sI;cases e
  subst e0;go_enter Tryz.func225,Tryz.ntmps225;go_wp2_with fail
  all_goals go_ret
  all_goals exact⟨_,rfl,Qbn,ext_refl _⟩
 |some ad=>
  have H:=hH (h.more Qap (G:=fun k=>k<w.heap.size) (fun _ _ hk=>hk));clear h k1 k1';go_enter Tryz.func225,Tryz.ntmps225;go_wp2_with (at_builtin;refine Qaj Qap rfl (.tmp 5) (.tmp 6) 101 rfl w.heap.size 196 i0 _ 2 16 Tryz.underlying101 hi hz0 hz1 hz2 rfl oM (F:=fun k=>k<w.heap.size) (G:=fun k=>k<w.heap.size) _ [] rfl Q3g _ l rfl (H.out.ext Qap (ext_alloc (ext_refl _) _)) Ql8 (fun k hk _=>⟨hk,Qo1 hk⟩) (by simp only[maxLen,List.length_nil];omega) (by simp only[List.length_nil];omega) sI ?_;intro v1 w1 hown1 hg1 hat1)
  go_ret;exact⟨_,rfl,Qf3 Qi5 hown1,Qao (ext_alloc (ext_refl _) _) hg1 (fun k hk=>Nat.le_of_eq (Qm1 hk))⟩
theorem Qmb {F:Nat→Prop} {w:World} {cs:List Value} {m:Mk} (h:RMk F w cs m) (hsz:m.1.length≤8000000000000):
  Calls Tryz.prog 194 #[.agg cs.toArray] w (Q0r m w):=by
 obtain⟨v,rfl,hl,hi64⟩:=h;obtain⟨l,c⟩:=m;simp only at hl hsz ⊢;have HL:=hH (fun(W:World) (hx:Ext w W)=>Qex (hl.ext Qap hx) hsz);obtain⟨a1,n1,c1,rfl⟩:=hl.slice;clear hl;have HI:=hH hi64;clear hi64;go_enter Tryz.func194,Tryz.ntmps194;go_wp2
 go_region_with (go_at_call 225;refine(HL.o _ (ext_drew (ext_alloc (ext_alloc (ext_refl _) _) _))).mono ?_;rintro e w1 ⟨v1,rfl,hv1,hx1⟩;obtain⟨a3,n3,c3,rfl⟩:=Qab hv1;have HV1:=hH hv1;clear hv1;obtain⟨z0,z1⟩:=cC2 hx1 w.heap.size (.slice a1 n1 c1) (.int .i64 c);obtain⟨z2,z3⟩:=cC2 hx1 (w.heap.size+1) (.slice none 0 0) (.int .i64 0);have z4:=fL hx1 (w.heap.size+1) 0;have z5:=fL hx1 (w.heap.size+1) 1)
 all_goals go_wp2
 all_goals refine bodyPost_end (v:= .agg #[.slice a3 n3 c3,.int .i64 c]) (by simp[results,Tryz.results194,go_sem,z2,z3]) rfl ⟨[.slice a3 n3 c3,.int .i64 c],rfl,⟨_,rfl,?_,HI.o⟩,?_⟩
 all_goals first
  |exact Qxv Qxm HV1.o (by repeat(first|exact Qag|refine Qbh ?_|refine Qa1 ?_ _|refine Qae ?_ sO _)) sO
  |exact(by repeat(first|exact ext_refl _|refine ext_drew ?_|refine ext_drewN ?_ _|refine ext_alloc ?_ _|refine ext_set ?_ sO _|refine Qan ?_ hx1))
theorem Q32 {l:List Stp} {i:Nat} {x y x':Int} (h:l[i]?=some (x,y)) (hx:I64 x'):
  ∀(G:Nat→Prop) (W:World) (cs:List Value) (s:Stp),l[i]?=some s→Qdt G W cs s→Qdt G W (cs.set 0 (.int .i64 x')) (x',y):=by
 rintro G W cs s hs ⟨rfl,_,iy⟩;rw[h] at hs;have:(x,y)=s:=by simpa using hs
 subst this;exact⟨rfl,hx,iy⟩
theorem Qal {n:Int} (h1: -100000≤n) (h2:n≤100000):I64 n:=by unfold I64;omega
theorem Qny {l:List Stp} {x y k:Int} (h:l[l.length-1]?=some (x,y)):Qb6 l k=l.set (l.length-1) (x+k,y):=by
 have hne:l≠[]:=by rintro rfl;simp at h
 obtain⟨q,s,rfl⟩:=Qf7 hne;rw[Qbk];have e:(q++[s]).length-1=q.length:=sI;rw[e] at h ⊢;rw[List.getElem?_append_right (Nat.le_refl _)] at h;have hs:s=(x,y):=by simpa using h
 subst hs;rw[List.set_append_right _ _ (Nat.le_refl _)];simp
theorem Qh7 {F:Nat→Prop} {w:World} {cs:List Value} {m:Mk} {k:Int} (h:RMk F w cs m) (hsz:m.1.length≤8000000000000) (hne:m.1≠[])
  (hd:0≤Qa6 m.1∧Qa6 m.1≤1000) (hc:0≤m.2∧m.2≤20000) (hk:0≤k∧k≤1000):
  Calls Tryz.prog 199 #[.agg cs.toArray,.int .i64 k] w (Q0r (Qar m k) w):=by
 have HO:=hH (fun(W:World) (hx:Ext w W)=>Qmb (gMk.ext h hx) hsz);obtain⟨v,rfl,hl,hi64⟩:=h;obtain⟨l,c⟩:=m;simp only at hl hsz hne hd hc ⊢;obtain⟨a1,n1,c1,rfl⟩:=hl.slice;obtain⟨rfl,_,_⟩:=hl.len;clear hl hi64;have hlt:l.length-1<l.length:=by
  have:=List.length_pos_iff.2 hne;omega
 obtain⟨c0,c2⟩:=hc;obtain⟨k0,k2⟩:=hk;have HD:=hH hd;clear hd;go_enter Tryz.func199,Tryz.ntmps199;go_wp2_with (go_at_call 194;go_must (refine(HO.o _ (ext_alloc (ext_alloc (ext_refl _) _) _)).mono ?_;rintro e w1 ⟨cs1,rfl,hm1,hx1⟩;obtain⟨v1,rfl,hv1,_⟩:=hm1;obtain⟨a3,n3,c3,rfl⟩:=Qab hv1;obtain⟨g3,s3,cs2,rfl,rfl,hg3,hg3',e3,_,hr3,hs3,hf3⟩:=Qlb hv1 hlt;obtain⟨x3,y3⟩:=s3;obtain⟨rfl,ix,iy⟩:=hs3;have z6:=hr3 0 _ rfl;have z7:=hr3 1 _ rfl;have z8:=hf3 ((l.length-1) * 2);simp only[Nat.add_zero] at z6 z7;have hd1:0≤x3:=(Qcp e3)▸HD.o.1;have hd2:x3≤1000:=(Qcp e3)▸HD.o.2;have HV1:=hH hv1;have HE3:=hH e3;obtain⟨y0,y1⟩:=cC2 hx1 (w.heap.size+1) (.slice none 0 0) (.int .i64 0);have y2:=fL hx1 (w.heap.size+1) 0;have y3f:=fL hx1 (w.heap.size+1) 1;have hs1:w.heap.size+1<w1.heap.size:=(by have:=hx1.size;simp at this;omega);have hn1:¬g3=w.heap.size+1:=(by simp at hg3;omega);have hn2:¬w.heap.size+1=g3:=oM;have HX1:=hH hx1;clear hv1 e3 hr3 hf3 hx1))
 have hg0:w.heap.size+1<g3:=(by simp at hg3;omega);refine bodyPost_end (v:= .agg #[.slice (some ⟨g3,0,none⟩) l.length c3,.int .i64 (c+k)]) (by simp[results,Tryz.results199,go_sem,y0,y1,hs1]) rfl ⟨[.slice (some ⟨g3,0,none⟩) l.length c3,.int .i64 (c+k)],rfl,⟨_,rfl,?_,?_⟩,?_⟩
 ·show OSl _ _ _ _ _ _ _ (Qb6 l k)
  rw[Qny HE3.o];exact Qxv Qxm (Qf4 Qap HV1.o hlt (j:=0) oM (Q32 HE3.o (x':=x3+k) (Qal oM oM))) (by repeat(first|exact Qag|refine Qbh ?_|refine Qa1 ?_ _|refine Qae ?_ sO _)) sO
 ·exact Qal (by simp only[Qar];omega) (by simp only[Qar];omega)
 ·exact(by repeat(first|exact ext_refl _|refine ext_drew ?_|refine ext_drewN ?_ _|refine ext_alloc ?_ _|refine ext_set ?_ sO _|refine Qan ?_ HX1.o))
end Go.Proofs.YtgnccjojfebkeaaGreat
namespace Go.Proofs.YtgnccjojfebkeaaGreat
open Go Go.RowKit Go.BigFrame Cp
theorem Qni:(Tryz.prog.info? 3).map (fun i=>(i.zero,i.size,i.bytes))=some (some (.int .i64 0),1,8):=kR
def Vao (f:Nat→Int) (n:Nat):List Int:=(List.range n).map f
theorem Qx9 (f:Nat→Int) (n:Nat):(Vao f n).length=n:=by simp[Vao]
theorem Qx8 {f:Nat→Int} {n i:Nat} (h:i<n):(Vao f n)[i]?=some (f i):=by simp[Vao,h]
theorem Quo {e base:Nat} {F:Nat→Prop} {w:World} {g n c:Nat} {f:Nat→Int} {m i:Nat} (h:OSl Qe1 1 e base F w (.slice (some ⟨g,0,none⟩) n c) (Vao f m)) (hi:i<m):
  base≤g∧g<w.heap.size∧w.cell? ⟨g,i,none⟩=some (.int .i64 (f i))∧I64 (f i)∧w.frozen? ⟨g,i,none⟩=false:=by
 obtain⟨g',x,cs,_,ha,hb,hs,hx,_,hr,⟨rfl,hI⟩,hf⟩:=Qlb h (i:=i) (by rw[Qx9];exact hi);injection ha with ha
 injection ha with ha _ _
 subst ha;rw[Qx8 hi] at hx;have:f i=x:=by simpa using hx
 subst this;exact⟨hb,hs,by simpa using hr 0 _ rfl,hI,hf i⟩
end Go.Proofs.YtgnccjojfebkeaaGreat
namespace Go.Proofs.YtgnccjojfebkeaaGreat
open Go Go.RowKit Cp
theorem Vdo {W:World} {r:Nat} {x y:Int} (h0:W.cell? ⟨r,0,none⟩=some (.int .i64 x)) (h1:W.cell? ⟨r,1,none⟩=some (.int .i64 y)) (ix:I64 x) (iy:I64 y) (hr:r<W.heap.size):
  RSl Qdt 2 (fun k=>k=r) W (.slice (some ⟨r,0,none⟩) 1 1) [(x,y)]:=
 Qbe (Qlf h0 h1) (Qbg rfl ⟨rfl,ix,iy⟩) rfl hr (Nat.le_refl _) mO
def Q0t (m:Mk) (w:World) (e:Ending) (w':World):Prop:=∃cs,e= .returned (.agg cs.toArray)∧RMk (fun k=>w.heap.size≤k) w' cs m∧Ext w w'
theorem Q04 (d s c:Int) (hd:I64 d) (hs:I64 s) (hc:I64 c) (w:World):
  Calls Tryz.prog 139 #[.int .i64 d,.int .i64 s,.int .i64 c] w (Q0t ([(d,s)],c) w):=by
 go_enter Tryz.func139,Tryz.ntmps139;go_wp2_with fail
 refine bodyPost_end (v:= .agg #[.slice (some ⟨w.heap.size+1,0,none⟩) 1 1,.int .i64 c]) (by simp[results,Tryz.results139,go_sem]) rfl ⟨[.slice (some ⟨w.heap.size+1,0,none⟩) 1 1,.int .i64 c],rfl,⟨_,rfl,RSl.more Qap (fun k hk _=>by omega) (Vdo gS gS hd hs sI),hc⟩,(by repeat(first|(with_reducible exact ext_refl _)|(with_reducible refine ext_drew ?_)|(with_reducible refine ext_drewN ?_ _)|(with_reducible refine ext_alloc ?_ _)|(with_reducible refine ext_set ?_ ltA _)))⟩
end Go.Proofs.YtgnccjojfebkeaaGreat
namespace Go.Proofs.YtgnccjojfebkeaaGreat
open Go Go.RowKit Go.BigFrame Cp
def Qvb (l:List At) (w:World) (e:Ending) (w':World):Prop:=∃v,e= .returned v∧RSl RAt 3 (fun k=>w.heap.size≤k) w' v l∧Ext w w'
def hiL:List At:=[(([(3,0)],1),104),(([(4,0)],2),105)]
theorem Qwn {w:World} {b o:Nat} {xs ys:List Value} (h:w.rangeAt b o xs) (k:w.rangeAt b (o+xs.length) ys):w.rangeAt b o (xs++ys):=by
 intro j v hv;by_cases hj:j<xs.length
 ·rw[List.getElem?_append_left hj] at hv;exact h j v hv
 ·rw[List.getElem?_append_right oM] at hv;have:=k _ v hv
  rwa [show o+xs.length+(j-xs.length)=o+j by omega] at this
theorem Q09 {F:Nat→Prop} {W:World} {r:Nat} {v1 v2:Value} {p1 p2:List Stp} {c1 c2:Int} {s1 s2:UInt8} (h1:RSl Qdt 2 F W v1 p1) (h2:RSl Qdt 2 F W v2 p2) (i1:I64 c1) (i2:I64 c2)
  (z0:W.cell? ⟨r,0,none⟩=some v1) (z1:W.cell? ⟨r,1,none⟩=some (.int .i64 c1)) (z2:W.cell? ⟨r,2,none⟩=some (.int .u8 s1.toNat))
  (z3:W.cell? ⟨r,3,none⟩=some v2) (z4:W.cell? ⟨r,4,none⟩=some (.int .i64 c2)) (z5:W.cell? ⟨r,5,none⟩=some (.int .u8 s2.toNat)) (hF:F r) (hr:r<W.heap.size):
  RSl RAt 3 F W (.slice (some ⟨r,0,none⟩) 2 2) [((p1,c1),s1),((p2,c2),s2)]:=
 Qbe (Qwn (Qfi z0 z1 z2) (Qfi z3 z4 z5)) (Qcj (R:=RAt) (sz:=3) (F:=F) (w:=W) (Qbg (x:=((p1,c1),s1)) rfl ⟨_,rfl,h1,i1⟩) (Qbg (x:=((p2,c2),s2)) rfl ⟨_,rfl,h2,i2⟩)) hF hr (Nat.le_refl _) mO
def Vdz (w:World) (e:Ending) (w':World):Prop:=∃g,e= .returned (.slice (some ⟨g,0,none⟩) 2 2)∧RSl RAt 3 (fun k=>w.heap.size≤k) w' (.slice (some ⟨g,0,none⟩) 2 2) hiL∧Ext w w'
theorem Vbm (w:World):Calls Tryz.prog 73 #[] w (Vdz w):=by
 go_enter Tryz.func73,Tryz.ntmps73;go_wp2_with (first
  |(go_at_call 139;((with_reducible refine(Q04 3 0 1 (Qal sI sI) (Qal sI sI) (Qal sI sI) _).mono ?_);rintro e w1 ⟨cs1,rfl,hm1,hx1⟩;obtain⟨v1,rfl,hv1,hi1⟩:=hm1;obtain⟨a1,n1,c1,rfl⟩:=hv1.slice;obtain rfl:n1=1:=hv1.len.1;have HV1:=hH hv1;clear hv1 hi1;have hz1:=hx1.size))
  |(go_at_call 139;((with_reducible refine(Q04 4 0 2 (Qal sI sI) (Qal sI sI) (Qal sI sI) _).mono ?_);rintro e w2 ⟨cs2,rfl,hm2,hx2⟩;obtain⟨v2,rfl,hv2,hi2⟩:=hm2;obtain⟨a2,n2,c2,rfl⟩:=hv2.slice;obtain rfl:n2=1:=hv2.len.1;have HV2:=hH hv2;clear hv2 hi2;have hz2:=hx2.size)))
 go_ret;exact⟨_,rfl,Q09 (c1:=1) (c2:=2) (s1:=104) (s2:=105) (RSl.more Qap (fun k hk _=>(show w.heap.size≤k by omega)) (HV1.o.ext Qap Qac)) (RSl.more Qap (fun k hk _=>(show w.heap.size≤k by omega)) (HV2.o.ext Qap Qac)) (Qal sI sI) (Qal sI sI) gS gS gS gS gS gS ltA ltA,Qac⟩
theorem Vbl (w:World):Calls Tryz.prog 73 #[] w (Qvb hiL w):=(Vbm w).mono fun _ _ ⟨_,h1,h2,h3⟩=>⟨_,h1,h2,h3⟩
end Go.Proofs.YtgnccjojfebkeaaGreat
