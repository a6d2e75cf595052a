/- A desk's rows written; signs taken and put by one who writes a note. -/
import Derived.Test.YtgnccjojfebkeaaGreatQa6d0d22334
import Derived.Test.YtgnccjojfebkeaaGreatQc74c15b1e5
import Derived.Test.YtgnccjojfebkeaaGreatQfa3e385bdd
import Derived.Test.YtgnccjojfebkeaaGreatQ463d8804a1
import Derived.Test.YtgnccjojfebkeaaGreatQ453a98ae2d
import Derived.Deep.RegionLaw
import Derived.Test.YtgnccjojfebkeaaGreatQb12723dfd3
set_option linter.unusedVariables false
set_option linter.unusedSimpArgs false
set_option maxRecDepth 100000
set_option maxHeartbeats 4000000
namespace Go.Proofs.YtgnccjojfebkeaaGreat
open Go Go.RowKit Go.BigFrame Cp
section
variable {Z:Nat→Prop} {B:Nat} {d:Dk} {W W9:World} {va vg vs vw vo:Value}
theorem OwnDk.out_ {v9:Value} {l:List No} (h:OwnDk Z B d W va vg vs vw vo) (g:W.grownBy W9 vo.ownBlock) (h9:OSl RNo 4 48 B (fun k=>B≤k∧¬Z k∧some k≠vs.ownBlock∧some k≠vw.ownBlock) W9 v9 l)
  (at9:∀k,v9.ownBlock=some k→vo.ownBlock=some k∨W.heap.size≤k∧¬Z k):OwnDk Z B {d with out:=l} W9 va vg vs vw v9:=by
 have ap:=h.apart;have ls:=Qak h.seen;have lw:=Qak h.waits;have lo:=Qak h.out;have hk:∀F:Nat→Prop,(∀k,F k→some k≠vo.ownBlock)→Keeps F W W9:=fun F hF=>⟨g.size,fun k hFk hl=>g.block k hl (hF k hFk)⟩
 have fr:∀k,Qjf Z B vs vw vo k→k<W.heap.size→some k≠v9.ownBlock:=fun k hk hl e=>by
  rcases at9 k e.symm with h1|h1
  ·exact hk.2.2.2.2 h1.symm
  ·omega
 have fm:∀k,Qjf Z B vs vw vo k→k<W.heap.size→Qjf Z B vs vw vo k∧some k≠v9.ownBlock:=fun k hk hl=>⟨hk,fr k hk hl⟩
 have to9:∀k,(Qjf Z B vs vw vo k∧some k≠v9.ownBlock)→Qjf Z B vs vw v9 k:=fun k hk=>⟨hk.1.1,hk.1.2.1,hk.1.2.2.1,hk.1.2.2.2.1,hk.2⟩
 refine⟨h.is,h.ic,((h.atoms.more gAt fm).keep gAt (hk _ fun k hk=>hk.1.2.2.2.2)).more gAt (fun k hk _=>to9 k hk),((h.gone.more gMk fm).keep gMk (hk _ fun k hk=>hk.1.2.2.2.2)).more gMk (fun k hk _=>to9 k hk),?_,?_,?_,?_⟩
 ·exact Qe8 Qqt h.seen (fun k e=>g.block k (ls k e).2 (fun e2=>(ap.1 k e).2.2 e2.symm))
 ·exact Qbt gNo (Qa8 gNo (Qbt gNo h.waits (fun k hk hl _=>fm k hk hl)) (hk _ fun k hk=>hk.elim (fun hk=>hk.1.2.2.2.2) (fun e e2=>(ap.2.1 k e.symm).2 e2.symm))) (fun k hk _ _=>to9 k hk)
 ·exact Qbt gNo h9 (fun k hk _ hne=>⟨hk.1,hk.2.1,hk.2.2.1,hk.2.2.2,hne⟩)
 ·refine⟨fun k e=>⟨(ap.1 k e).1,(ap.1 k e).2.1,fun e9=> ?_⟩,fun k e=>⟨(ap.2.1 k e).1,fun e9=> ?_⟩,fun k e9=> ?_⟩
  ·rcases at9 k e9 with h1|h1
   ·exact(ap.1 k e).2.2 h1
   ·have:=(ls k e).2;omega
  ·rcases at9 k e9 with h1|h1
   ·exact(ap.2.1 k e).2 h1
   ·have:=(lw k e).2;omega
  ·rcases at9 k e9 with h1|h1
   ·exact ap.2.2 k h1
   ·exact h1.2
theorem OwnDk.waits_ {v9:Value} {l:List No} (h:OwnDk Z B d W va vg vs vw vo) (g:W.grownBy W9 vw.ownBlock) (h9:OSl RNo 4 48 B (fun k=>B≤k∧¬Z k∧some k≠vs.ownBlock∧some k≠vo.ownBlock) W9 v9 l)
  (at9:∀k,v9.ownBlock=some k→vw.ownBlock=some k∨W.heap.size≤k∧¬Z k):OwnDk Z B {d with waits:=l} W9 va vg vs v9 vo:=by
 have ap:=h.apart;have ls:=Qak h.seen;have lw:=Qak h.waits;have lo:=Qak h.out;have hk:∀F:Nat→Prop,(∀k,F k→some k≠vw.ownBlock)→Keeps F W W9:=fun F hF=>⟨g.size,fun k hFk hl=>g.block k hl (hF k hFk)⟩
 have fr:∀k,Qjf Z B vs vw vo k→k<W.heap.size→some k≠v9.ownBlock:=fun k hk hl e=>by
  rcases at9 k e.symm with h1|h1
  ·exact hk.2.2.2.1 h1.symm
  ·omega
 have fm:∀k,Qjf Z B vs vw vo k→k<W.heap.size→Qjf Z B vs vw vo k∧some k≠v9.ownBlock:=fun k hk hl=>⟨hk,fr k hk hl⟩
 have to9:∀k,(Qjf Z B vs vw vo k∧some k≠v9.ownBlock)→Qjf Z B vs v9 vo k:=fun k hk=>⟨hk.1.1,hk.1.2.1,hk.1.2.2.1,hk.2,hk.1.2.2.2.2⟩
 refine⟨h.is,h.ic,((h.atoms.more gAt fm).keep gAt (hk _ fun k hk=>hk.1.2.2.2.1)).more gAt (fun k hk _=>to9 k hk),((h.gone.more gMk fm).keep gMk (hk _ fun k hk=>hk.1.2.2.2.1)).more gMk (fun k hk _=>to9 k hk),?_,?_,?_,?_⟩
 ·exact Qe8 Qqt h.seen (fun k e=>g.block k (ls k e).2 (fun e2=>(ap.1 k e).2.1 e2.symm))
 ·exact Qbt gNo h9 (fun k hk _ hne=>⟨hk.1,hk.2.1,hk.2.2.1,hne,hk.2.2.2⟩)
 ·exact Qbt gNo (Qa8 gNo (Qbt gNo h.out (fun k hk hl _=>fm k hk hl)) (hk _ fun k hk=>hk.elim (fun hk=>hk.1.2.2.2.1) (fun e e2=>(ap.2.1 k e2.symm).2 e.symm))) (fun k hk _ _=>to9 k hk)
 ·refine⟨fun k e=>⟨(ap.1 k e).1,fun e9=> ?_,(ap.1 k e).2.2⟩,fun k e9=>⟨fun hz=> ?_,fun e=> ?_⟩,ap.2.2⟩
  ·rcases at9 k e9 with h1|h1
   ·exact(ap.1 k e).2.1 h1
   ·have:=(ls k e).2;omega
  ·rcases at9 k e9 with h1|h1
   ·exact(ap.2.1 k h1).1 hz
   ·exact h1.2 hz
  ·rcases at9 k e9 with h1|h1
   ·exact(ap.2.1 k h1).2 e
   ·have:=(lo k e).2;omega
theorem OwnDk.seen_ {l:List Int} (h:OwnDk Z B d W va vg vs vw vo) (k:Keeps (fun k=>some k≠vs.ownBlock) W W9) (h9:OSl Qe1 1 3 B (fun _=>True) W9 vs l):OwnDk Z B {d with seen:=l} W9 va vg vs vw vo:=by
 have ap:=h.apart;refine⟨h.is,h.ic,h.atoms.keep gAt (k.weaken (fun k _ hk=>hk.2.2.1)),h.gone.keep gMk (k.weaken (fun k _ hk=>hk.2.2.1)),h9,Qa8 gNo h.waits (k.weaken (fun k _ hk=>hk.elim (fun hk=>hk.2.2.1) (fun e e2=>(ap.1 k e2.symm).2.1 e.symm))),Qa8 gNo h.out (k.weaken (fun k _ hk=>hk.elim (fun hk=>hk.2.2.1) (fun e e2=>(ap.1 k e2.symm).2.2 e.symm))),ap⟩
theorem Qsl {w:World} {g n c:Nat} {l:List Int} {i:Nat} {x:Int} (h:OSl Qe1 1 3 B (fun _=>True) w (.slice (some ⟨g,0,none⟩) n c) l) (hi:i<l.length) (hx:I64 x):OSl Qe1 1 3 B (fun _=>True) (w.setCell ⟨g,i,none⟩ (.int .i64 x)) (.slice (some ⟨g,0,none⟩) n c) (l.set i x):=by
 have h1:=Qf4 Qd6 h (i:=i) (j:=0) hi oM (u:= .int .i64 x) (x:=x) (fun G W cs y _ hy=>by obtain⟨rfl,_⟩:=hy;exact⟨rfl,hx⟩);simpa using h1
end
theorem Qw9 {s:St} {a n:Int}:(Qnh s a n).length≤1000000:=by
 by_cases h:Qs2 s a n=0
 ·unfold Qnh;rw[if_pos h,List.length_map];have h1:=Qg7 (Qry s a.toNat n.toNat);have h2:=(Qqi h).1.2.1;unfold Qry at h1;rw[List.length_take,List.length_drop] at h1;unfold Qry;omega
 ·unfold Qnh;rw[if_neg h];simp
theorem Qso {s:St} {p:Int} {t:Tx} {site clock:Int}:(Qj6 s p t site clock).length≤60:=by
 by_cases h:Qet s p t site clock=0
 ·obtain⟨_,⟨k,rfl,_⟩,_,ht,_⟩:=Qfn h;obtain⟨fl,_,fv,_⟩:=Qir h;rw[fv,List.length_map];have:=Qg7 (Qf5 s k t site clock);omega
 ·unfold Qj6;rw[if_neg h];simp
theorem OwnWr.later {B b:Nat} {x:Wr} {w:World} {va vg vs vw vo vd:Value} (h:OwnWr B b x w va vg vs vw vo vd) {k:Nat} (hk:w.heap.size≤k):Qjf (fun k=>k=b) B vs vw vo k∧some k≠vd.ownBlock:=by
 have hb:=h.lt;have hle:=h.le;exact⟨⟨oM,fun e=>by omega,fun e=>by have:=(Qak h.desk.seen k e.symm).2;omega,fun e=>by have:=(Qak h.desk.waits k e.symm).2;omega,fun e=>by have:=(Qak h.desk.out k e.symm).2;omega⟩,fun e=>by have:=(Qak h.deeds k e.symm).2;omega⟩
theorem Q4t {B b:Nat} {x:Wr} {w:World} {va vg vs vw vo vd:Value} {at_ many:Int} (h:OwnWr B b x w va vg vs vw vo vd) (ia:I64 at_) (im:I64 many) (hx:x.2.length≤1000000):
  Calls Tryz.prog 93 #[.pointer (some ⟨b,0,none⟩),.int .i64 at_,.int .i64 many] w (Qwz B b vd (Qhh x at_ many) (Qhi x at_ many) w):=by
 have hbz:=h.lt;have HW:=hH h;have HET:=hH (fun(W:World) (hx:Ext w W)=>Qtn (Qh1 (h.desk.atoms.ext gAt hx) (h.desk.gone.ext gMk hx)) ia im);have HDO:=hH (fun(W w3:World) (hx1:Ext w3 W) (hx3:Ext w w3) (v:Value) (hv:RSl RDe 7 (fun j=>w.heap.size≤j) w3 v (Qnh x.1.state at_ many))=>Vcd (er:=Qs2 x.1.state at_ many) (h.ext (ext_trans hx3 hx1)) (hv.ext gDe hx1) (fun k hk _=>h.later hk) hx Qw9);have c1:=h.cells 1 _ rfl;have c2:=h.cells 2 _ rfl;obtain⟨a1,n1,k1,rfl⟩:=h.desk.atoms.slice;obtain⟨a2,n2,k2,rfl⟩:=h.desk.gone.slice;obtain⟨e1,he1⟩:∃e:Int,Qs2 x.1.state at_ many=e:=⟨_,rfl⟩;obtain⟨l1,hl1⟩:∃l,Qnh x.1.state at_ many=l:=⟨_,rfl⟩;have HR:=hH (show Qhh x at_ many=doE x e1 l1∧Qhi x at_ many=doV x l1 by rw[←he1,←hl1];exact⟨rfl,rfl⟩);rw[HR.o.1,HR.o.2];rw[he1,hl1] at HET HDO;clear h he1 hl1 ia im;generalize doE x e1 l1=er at *;go_enter Tryz.func93,Tryz.ntmps93;go_wp2_with (first
  |(go_at_call 167;go_must ((with_reducible refine(HET.o _ Qac).mono ?_);rintro e w3 ⟨vl,rfl,hl3,hx3⟩;obtain⟨p1,q1,r1,rfl⟩:=hl3.slice;have HL3:=hH (RSl.more gDe (G:=fun j=>w.heap.size≤j) (fun j hj _=>Nat.le_trans (ext_trans (ext_refl w) Qac).size hj) hl3);have HX3:=xY w hx3;clear hl3 hx3))
  |(go_at_call 165;go_must ((with_reducible refine(HDO.o _ w3 Qac HX3.o _ HL3.o).mono ?_);rintro e w4 ⟨rfl,⟨z,va4,vg4,vs4,vw4,vo4,vd4,ho4,hz4,hn4⟩,hx4,hk4⟩;have HO4:=hH ho4;have HZ4:=hH hz4;have HX4:=hH hx4;have HN4:=hH hn4;have HK4:=hH hk4;clear ho4 hz4 hx4 hn4 hk4)))
 go_ret;exact⟨rfl,⟨z,va4,vg4,vs4,vw4,vo4,vd4,HO4.o,HZ4.o,Qsm HN4.o (ext_trans HX3.o Qac)⟩,fun a ha hB=>HX4.o a (ext_trans ha (ext_trans HX3.o Qac)) hB,Qku HK4.o (ext_trans HX3.o Qac)⟩
theorem Q4s {B b:Nat} {x:Wr} {w:World} {va vg vs vw vo vd:Value} {at_ many:Int} (h:OwnWr B b x w va vg vs vw vo vd) (ia:I64 at_) (im:I64 many) (hx:x.2.length≤1000000):
  Calls Tryz.prog 93 #[.pointer (some ⟨b,0,none⟩),.int .i64 at_,.int .i64 many] w (Qrl B b (Qhh x at_ many) (Qhi x at_ many) w):=(Q4t h ia im hx).mono fun _ _=>Q8k
def Qr4 (t:TypeId) (x:Operand):Op:=Op.load t x
theorem OwnWr.clock_ {B b:Nat} {z:Wr} {w:World} {va vg vs vw vo vd:Value} (h:OwnWr B b z w va vg vs vw vo vd) {c:Int} (ic:I64 c):OwnWr B b ({z.1 with clock:=c},z.2) (w.setCell ⟨b,5,none⟩ (.int .i64 c)) va vg vs vw vo vd:=by
 have d1:=h.desk.set (b:=b) (.inl rfl) 5 (.int .i64 c);refine⟨⟨d1.is,ic,d1.atoms,d1.gone,d1.seen,d1.waits,d1.out,d1.apart⟩,Qa8 gDe h.deeds (Qae Qag (fun _ hk=>hk.elim (fun hk=>hk.2.1 rfl) (fun e=>h.apart b e.symm rfl)) _),fun i v hi=> ?_,fun o=> ?_,h.apart,h.le⟩
 ·have hb:=h.lt
  match i,hi with
  |0,hi=>injection hi with hi;subst hi;have:=h.cells 0 _ rfl;go_simp
  |1,hi=>injection hi with hi;subst hi;have:=h.cells 1 _ rfl;go_simp
  |2,hi=>injection hi with hi;subst hi;have:=h.cells 2 _ rfl;go_simp
  |3,hi=>injection hi with hi;subst hi;have:=h.cells 3 _ rfl;go_simp
  |4,hi=>injection hi with hi;subst hi;have:=h.cells 4 _ rfl;go_simp
  |5,hi=>injection hi with hi;subst hi;have:=h.cells 5 _ rfl;go_simp
  |6,hi=>injection hi with hi;subst hi;have:=h.cells 6 _ rfl;go_simp
  |7,hi=>injection hi with hi;subst hi;have:=h.cells 7 _ rfl;go_simp
  |i+8,hi=>simp at hi
 ·have:=h.fz o;go_simp
theorem Q7s (n:Int):I64 (wrap64 n):=by unfold I64 wrap64;omega
theorem Q0k {c:Int} (h:1≤c∧c≤10001):wrap64 (10001-c)=10001-c:=IntWalk.wrap64_in _ oM
theorem Q0j {x:Wr} {p:Int} {t:Tx} (h:10001-x.1.clock<(t.length:Int)):Qek x p t=2:=by unfold Qek;rw[if_pos h]
theorem Q7p {x:Wr} {p:Int} {t:Tx} (h:¬10001-x.1.clock<(t.length:Int)):Qek x p t=doE x (Qet x.1.state p t x.1.site x.1.clock) (Qs0 x p t):=by unfold Qek;rw[if_neg h]
theorem Q8j {B b:Nat} {x:Wr} {w:World} {va vg vs vw vo vd:Value} {p:Int} {u:ByteArray} (h:OwnWr B b x w va vg vs vw vo vd) (ip:I64 p) (hu:u.size≤140737488351232) (hc:1≤x.1.clock∧x.1.clock≤10001) (hx:x.2.length≤1000000):
  Calls Tryz.prog 91 #[.pointer (some ⟨b,0,none⟩),.int .i64 p,.string u] w (Qwz B b vd (Qek x p u.data.toList) (Qgt x p u.data.toList) w):=by
 have hbz:=h.lt;have HW:=hH h;have hul:u.data.toList.length=u.size:=sI;have HUL:=hH hul;have HCK:=hH hc;have c0:=h.cells 0 _ rfl;have c1:=h.cells 1 _ rfl;have c2:=h.cells 2 _ rfl;have c5:=h.cells 5 _ rfl;have hw1:wrap64 (10001-x.1.clock)=10001-x.1.clock:=IntWalk.wrap64_in _ oM;by_cases hq:10001-x.1.clock<(u.data.toList.length:Int)
 ·rw[Q0j hq];have t1:decide (10001-x.1.clock<(u.size:Int))=true:=decide_eq_true oM;clear h hq hul hc;generalize x.1.clock=ck at *;go_enter Tryz.func91,Tryz.ntmps91;go_wp2_with fail
  go_ret;exact⟨rfl,⟨_,_,_,_,_,_,_,HW.o,fun e=>absurd e dC,fun k hk=> .inl hk⟩,fun a ha hB=>ha,Qag⟩
 ·rw[Q7p hq];have t1:decide (10001-x.1.clock<(u.size:Int))=false:=decide_eq_false oM;have HEP:=hH (fun(W:World) (hx:Ext w W)=>Qvv (u:=u) (site:=x.1.site) (Qh1 (h.desk.atoms.ext gAt hx) (h.desk.gone.ext gMk hx)) ip hu h.desk.ic);have HDO:=hH (fun(W w3:World) (hx1:Ext w3 W) (hx3:Ext w w3) (v:Value) (hv:RSl RDe 7 (fun j=>w.heap.size≤j) w3 v (Qs0 x p u.data.toList))=>Vcd (er:=Qet x.1.state p u.data.toList x.1.site x.1.clock) (h.ext (ext_trans hx3 hx1)) (hv.ext gDe hx1) (fun k hk _=>h.later hk) hx (Nat.le_trans Qso oM));obtain⟨a1,n1,k1,rfl⟩:=h.desk.atoms.slice;obtain⟨a2,n2,k2,rfl⟩:=h.desk.gone.slice;obtain⟨e1,he1⟩:∃e:Int,Qet x.1.state p u.data.toList x.1.site x.1.clock=e:=⟨_,rfl⟩;obtain⟨l1,hl1⟩:∃l,Qs0 x p u.data.toList=l:=⟨_,rfl⟩;have hl1':Qj6 x.1.state p u.data.toList x.1.site x.1.clock=l1:=hl1;have HV:=hH (show∀z:Wr,z=doV x l1→({z.1 with clock:=wrap64 (z.1.clock+(u.size:Int))},z.2)=Qgt x p u.data.toList by
   intro z hz;subst hz;have e:(doV x l1).1.clock=x.1.clock:=rfl;rw[e,IntWalk.wrap64_in _ oM,←hul,←hl1];rfl)
  rw[hl1',he1] at HEP;rw[hl1,he1] at HDO;rw[hl1,he1];clear h he1 hl1 hl1' ip hul hc hq hw1;have hw1:=Q0k HCK.o;generalize doE x e1 l1=er at *;go_enter Tryz.func91,Tryz.ntmps91;go_upto_region 3 with fail
  go_region_law (first
   |(go_simp;(go_at_call 166;go_must ((with_reducible refine(HEP.o _ Qac).mono ?_);rintro e w3 ⟨vl,rfl,hl3,hx3⟩;obtain⟨p1,q1,r1,rfl⟩:=hl3.slice;have HL3:=hH (RSl.more gDe (G:=fun j=>w.heap.size≤j) (fun j hj _=>(by have h9:_≤j:=hj;first|exact h9|omega|(simp at h9;omega))) hl3);have HX3:=xY w hx3;clear hl3 hx3)))
   |(go_simp;(go_at_call 165;go_must ((with_reducible refine(HDO.o _ w3 Qac HX3.o _ HL3.o).mono ?_);rintro e w4 ⟨rfl,⟨z,va4,vg4,vs4,vw4,vo4,vd4,ho4,hz4,hn4⟩,hx4,hk4⟩;have y5:=ho4.cells 5 _ rfl;have yf:=ho4.fz 5;have yb:=ho4.lt;have HO4:=hH ho4;have HZ4:=hH hz4;have HX4:=hH hx4;have HN4:=hH hn4;have HK4:=hH hk4;clear ho4 hz4 hx4 hn4 hk4))))
  all_goals (go_wp2_with fail)
  all_goals go_ret
  all_goals refine⟨rfl,⟨_,_,_,_,_,_,_,HO4.o.clock_ (Q7s _),fun e=>HV.o z (HZ4.o e),Qsm HN4.o (ext_trans HX3.o Qac)⟩,fun a ha hB=>Qr1 (HX4.o a ?_ hB) hB HW.o.le _ _,Qae (Qku HK4.o (ext_trans HX3.o Qac)) (fun _ hk=>hk.1 rfl) _⟩
  all_goals exact ext_trans ha (ext_trans HX3.o Qac)
theorem Q7q {B b:Nat} {x:Wr} {w:World} {va vg vs vw vo vd:Value} {p:Int} {u:ByteArray} (h:OwnWr B b x w va vg vs vw vo vd) (ip:I64 p) (hu:u.size≤140737488351232) (hc:1≤x.1.clock∧x.1.clock≤10001) (hx:x.2.length≤1000000):
  Calls Tryz.prog 91 #[.pointer (some ⟨b,0,none⟩),.int .i64 p,.string u] w (Qrl B b (Qek x p u.data.toList) (Qgt x p u.data.toList) w):=(Q8j h ip hu hc hx).mono fun _ _=>Q8k
structure OwnBx (Z:Nat→Prop) (B b:Nat) (d:Dk) (W:World) (va vg vs vw vo:Value):Prop where
 desk:OwnDk Z B d W va vg vs vw vo
 zb:Z b
 zl:∀k,Z k→k<W.heap.size
 cells:∀(i:Nat) (v:Value),([.int .i64 d.site,va,vg,vs,vw,.int .i64 d.clock,vo]:List Value)[i]?=some v→W.cell? ⟨b,i,none⟩=some v
 fz:∀o,W.frozen? ⟨b,o,none⟩=false
 le:B≤b
section
variable {Z:Nat→Prop} {B b:Nat} {d:Dk} {W W1 W9 Wf:World} {va vg vs vw vo va' vg' v9:Value}
theorem OwnBx.lt (h:OwnBx Z B b d W va vg vs vw vo):b<W.heap.size:=h.zl b h.zb
theorem OwnBx.ext (h:OwnBx Z B b d W va vg vs vw vo) (hx:Ext W W1):OwnBx Z B b d W1 va vg vs vw vo:=
 ⟨h.desk.ext hx,h.zb,fun k hk=>Nat.lt_of_lt_of_le (h.zl k hk) hx.size,fun i v hv=>(hx.cells _ _ h.lt).trans (h.cells i v hv),fun o=>(hx.frz _ _ h.lt).trans (h.fz o),h.le⟩
theorem OwnBx.later (h:OwnBx Z B b d W va vg vs vw vo) {k:Nat} (hk:W.heap.size≤k):Qjf Z B vs vw vo k:=
 ⟨by have:=h.lt;have:=h.le;omega,fun hz=>by have:=h.zl k hz;omega,fun e=>by have:=(Qak h.desk.seen k e.symm).2;omega,fun e=>by have:=(Qak h.desk.waits k e.symm).2;omega,fun e=>by have:=(Qak h.desk.out k e.symm).2;omega⟩
theorem OwnBx.state_ {t:St} (h:OwnBx Z B b d W va vg vs vw vo) (k1:Keeps (fun k=>k≠b) W W1) (hA:RSl RAt 3 (fun k=>W.heap.size≤k) W1 va' t.1) (hG:RSl RMk 2 (fun k=>W.heap.size≤k) W1 vg' t.2)
  (hc:∀(i:Nat) (v:Value),([.int .i64 d.site,va',vg',vs,vw,.int .i64 d.clock,vo]:List Value)[i]?=some v→W1.cell? ⟨b,i,none⟩=some v) (hf:∀o,W1.frozen? ⟨b,o,none⟩=false):OwnBx Z B b {d with state:=t} W1 va' vg' vs vw vo:=by
 have d1:=h.desk.keep (k1.weaken (fun k _ hk e=>hk.2 (e▸h.zb)));exact⟨⟨d1.is,d1.ic,hA.more gAt (fun k hk _=>h.later hk),hG.more gMk (fun k hk _=>h.later hk),d1.seen,d1.waits,d1.out,d1.apart⟩,h.zb,fun k hk=>Nat.lt_of_lt_of_le (h.zl k hk) k1.size,hc,hf,h.le⟩
theorem OwnBx.waits_ {l:List No} (h:OwnBx Z B b d W va vg vs vw vo) (hx:Ext W W1) (g:W1.grownBy W9 vw.ownBlock) (h9:OSl RNo 4 48 B (fun k=>B≤k∧¬Z k∧some k≠vs.ownBlock∧some k≠vo.ownBlock) W9 v9 l)
  (at9:v9.ownBlock=vw.ownBlock∨v9.ownBlock=some W1.heap.size) (kf:Keeps (fun k=>k≠b) W9 Wf)
  (hc:∀(i:Nat) (v:Value),([.int .i64 d.site,va,vg,vs,v9,.int .i64 d.clock,vo]:List Value)[i]?=some v→Wf.cell? ⟨b,i,none⟩=some v) (hf:∀o,Wf.frozen? ⟨b,o,none⟩=false):OwnBx Z B b {d with waits:=l} Wf va vg vs v9 vo:=by
 have d1:=(h.desk.ext hx).waits_ g h9 (fun k hk=>by
  rcases at9 with e|e
  ·exact .inl (e▸hk)
  ·rw[e] at hk;injection hk with hk
   subst hk;exact .inr ⟨Nat.le_refl _,fun hz=>by have:=h.zl _ hz;have:=hx.size;omega⟩)
 refine⟨d1.keep (kf.weaken (fun k _ hk e=>hk.2 (e▸h.zb))),h.zb,fun k hk=> ?_,hc,hf,h.le⟩;have h1:=h.zl k hk;have h2:=hx.size;have h3:=g.size;have h4:=kf.size;omega
theorem OwnBx.seen_ {l:List Int} (h:OwnBx Z B b d W va vg vs vw vo) (k:Keeps (fun k=>some k≠vs.ownBlock) W W9) (h9:OSl Qe1 1 3 B (fun _=>True) W9 vs l) (hb:W9.heap[b]?=W.heap[b]?):OwnBx Z B b {d with seen:=l} W9 va vg vs vw vo:=
 ⟨h.desk.seen_ k h9,h.zb,fun j hj=>Nat.lt_of_lt_of_le (h.zl j hj) k.size,fun i v hv=>(World.cell?_of_block (a:=⟨b,i,none⟩) hb).trans (h.cells i v hv),fun o=>(World.frozen?_of_block (a:=⟨b,o,none⟩) hb).trans (h.fz o),h.le⟩
theorem OwnBx.clock_ (h:OwnBx Z B b d W va vg vs vw vo) {c:Int} (ic:I64 c):OwnBx Z B b {d with clock:=c} (W.setCell ⟨b,5,none⟩ (.int .i64 c)) va vg vs vw vo:=by
 have d1:=h.desk.set (b:=b) h.zb 5 (.int .i64 c);refine⟨⟨d1.is,ic,d1.atoms,d1.gone,d1.seen,d1.waits,d1.out,d1.apart⟩,h.zb,fun k hk=>by simpa using h.zl k hk,fun i v hi=> ?_,fun o=> ?_,h.le⟩
 ·have hb:=h.lt
  match i,hi with
  |0,hi=>injection hi with hi;subst hi;have:=h.cells 0 _ rfl;go_simp
  |1,hi=>injection hi with hi;subst hi;have:=h.cells 1 _ rfl;go_simp
  |2,hi=>injection hi with hi;subst hi;have:=h.cells 2 _ rfl;go_simp
  |3,hi=>injection hi with hi;subst hi;have:=h.cells 3 _ rfl;go_simp
  |4,hi=>injection hi with hi;subst hi;have:=h.cells 4 _ rfl;go_simp
  |5,hi=>injection hi with hi;subst hi;have:=h.cells 5 _ rfl;go_simp
  |6,hi=>injection hi with hi;subst hi;have:=h.cells 6 _ rfl;go_simp
  |i+7,hi=>simp at hi
 ·have:=h.fz o;go_simp
theorem OwnBx.read (h:OwnBx Z B b d W va vg vs vw vo):RDk (fun k=>B≤k) W [.int .i64 d.site,va,vg,vs,vw,.int .i64 d.clock,vo] d:=h.desk.read
end
theorem Qt8 {F:Nat→Prop} {w:World} {cs:List Value} {d:Dk} (h:RDk F w cs d) (hs:Qbx d.seen=0) (hn:∀n∈d.waits,Qa0 n=0):
  Calls Tryz.prog 160 #[.agg cs.toArray] w fun e w'=>e= .returned (.int .i64 (Val (d.waits.findIdx? (Qb5 d.seen))))∧Ext w w':=by
 obtain⟨va,vg,vs,vw,vo,rfl,_,ha,hg,hq,hw,_,ho⟩:=h;have HIX:=hH (fun(W:World) (hx:Ext w W) (g:Nat) (h3:W.cell? ⟨g,3,none⟩=some vs) (hg:g<W.heap.size)=>Qzb (g:=g) (hw.ext gNo hx) ⟨vs,h3,RSl.more Qd6 (fun _ _ _=>trivial) (hq.ext Qd6 hx),hg⟩ hs hn);obtain⟨a1,n1,k1,rfl⟩:=ha.slice;obtain⟨a2,n2,k2,rfl⟩:=hg.slice;obtain⟨a3,n3,k3,rfl⟩:=hq.slice;obtain⟨a4,n4,k4,rfl⟩:=hw.slice;obtain⟨a5,n5,k5,rfl⟩:=ho.slice;clear ha hg hq hw ho hs hn;go_enter Tryz.func160,Tryz.ntmps160;go_wp2_with (go_at_call 200;go_must ((with_reducible refine(HIX.o _ Qac w.heap.size gS sI).mono ?_);rintro e w3 ⟨rfl,hx3⟩;skip))
 go_ret;exact⟨rfl,ext_trans Qac hx3⟩
end Go.Proofs.YtgnccjojfebkeaaGreat
