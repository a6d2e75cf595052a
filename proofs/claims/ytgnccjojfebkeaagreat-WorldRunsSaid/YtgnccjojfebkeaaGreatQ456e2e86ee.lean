/- A desk of one's own: how it lies; desk.Own. -/
import Derived.Test.YtgnccjojfebkeaaGreatQ5e94ee24c9
import Derived.Test.YtgnccjojfebkeaaGreatQf21f87fce6
import Derived.Test.YtgnccjojfebkeaaGreatQb12723dfd3
import Derived.Test.YtgnccjojfebkeaaGreatQ8c79696ad7
import Derived.Deep.RegionHeld3
set_option linter.unusedVariables false
set_option linter.unusedSimpArgs false
set_option maxRecDepth 100000
set_option maxHeartbeats 4000000
namespace Go.Proofs.YtgnccjojfebkeaaGreat
open Go Go.RowKit Go.BigFrame Cp
def Qjf (Z:Nat→Prop) (B:Nat) (vs vw vo:Value) (k:Nat):Prop:=B≤k∧¬Z k∧some k≠vs.ownBlock∧some k≠vw.ownBlock∧some k≠vo.ownBlock
def Qs3 (Z:Nat→Prop) (vs vw vo:Value):Prop:=(∀k,vs.ownBlock=some k→¬Z k∧vw.ownBlock≠some k∧vo.ownBlock≠some k)∧(∀k,vw.ownBlock=some k→¬Z k∧vo.ownBlock≠some k)∧∀k,vo.ownBlock=some k→¬Z k
structure OwnDk (Z:Nat→Prop) (B:Nat) (d:Dk) (W:World) (va vg vs vw vo:Value):Prop where
 is:I64 d.site
 ic:I64 d.clock
 atoms:RSl RAt 3 (Qjf Z B vs vw vo) W va d.state.1
 gone:RSl RMk 2 (Qjf Z B vs vw vo) W vg d.state.2
 seen:OSl Qe1 1 3 B (fun _=>True) W vs d.seen
 waits:OSl RNo 4 48 B (Qjf Z B vs vw vo) W vw d.waits
 out:OSl RNo 4 48 B (Qjf Z B vs vw vo) W vo d.out
 apart:Qs3 Z vs vw vo
def Vay (d:Dk) (w:World) (e:Ending) (w':World):Prop:=
 ∃va vg vs vw vo,e= .returned (.agg #[.int .i64 d.site,va,vg,vs,vw,.int .i64 d.clock,vo])∧(∀Z:Nat→Prop,(∀k,Z k→w'.heap.size≤k)→OwnDk Z w.heap.size d w' va vg vs vw vo)∧Ext w w'
section
variable {Z:Nat→Prop} {B:Nat} {d:Dk} {w w':World} {va vg vs vw vo:Value}
theorem OwnDk.ext (h:OwnDk Z B d w va vg vs vw vo) (hx:Ext w w'):OwnDk Z B d w' va vg vs vw vo:=
 ⟨h.is,h.ic,h.atoms.ext gAt hx,h.gone.ext gMk hx,Qai Qd6 h.seen hx,Qai gNo h.waits hx,Qai gNo h.out hx,h.apart⟩
theorem OwnDk.keep (h:OwnDk Z B d w va vg vs vw vo) (hk:Keeps (fun k=>B≤k∧¬Z k) w w'):OwnDk Z B d w' va vg vs vw vo:=by
 have ap:=h.apart;refine⟨h.is,h.ic,h.atoms.keep gAt (hk.weaken (fun k _ hk=>⟨hk.1,hk.2.1⟩)),h.gone.keep gMk (hk.weaken (fun k _ hk=>⟨hk.1,hk.2.1⟩)),?_,?_,?_,ap⟩
 ·refine Qe8 Qqt h.seen (fun k e=> ?_);have:=Qak h.seen k e;exact hk.block k ⟨this.1,(ap.1 k e).1⟩ this.2
 ·refine Qa8 gNo h.waits (hk.weaken (fun k hlt hk=> ?_));rcases hk with hk|hk
  ·exact⟨hk.1,hk.2.1⟩
  ·exact⟨(Qak h.waits k hk.symm).1,(ap.2.1 k hk.symm).1⟩
 ·refine Qa8 gNo h.out (hk.weaken (fun k hlt hk=> ?_));rcases hk with hk|hk
  ·exact⟨hk.1,hk.2.1⟩
  ·exact⟨(Qak h.out k hk.symm).1,ap.2.2 k hk.symm⟩
theorem OwnDk.set (h:OwnDk Z B d w va vg vs vw vo) {b:Nat} (hb:Z b) (o:Nat) (u:Value):OwnDk Z B d (w.setCell ⟨b,o,none⟩ u) va vg vs vw vo:=
 h.keep (Qae Qag (fun _ hp=>hp.2 hb) u)
theorem OwnDk.less {Y:Nat→Prop} (h:OwnDk Z B d w va vg vs vw vo) (hy:∀k,Y k→Z k∨w.heap.size≤k):OwnDk Y B d w va vg vs vw vo:=by
 have ap:=h.apart;have fr:∀k,Qjf Z B vs vw vo k→k<w.heap.size→Qjf Y B vs vw vo k:=fun k hk hl=>⟨hk.1,fun hyk=>(hy k hyk).elim hk.2.1 (fun h=>by omega),hk.2.2⟩
 refine⟨h.is,h.ic,h.atoms.more gAt fr,h.gone.more gMk fr,h.seen,Qbt gNo h.waits (fun k hk hl _=>fr k hk hl),Qbt gNo h.out (fun k hk hl _=>fr k hk hl),fun k hk=>⟨fun hyk=> ?_,(ap.1 k hk).2⟩,fun k hk=>⟨fun hyk=> ?_,(ap.2.1 k hk).2⟩,fun k hk hyk=> ?_⟩
 ·rcases hy k hyk with h1|h1
  ·exact(ap.1 k hk).1 h1
  ·have:=(Qak h.seen k hk).2;omega
 ·rcases hy k hyk with h1|h1
  ·exact(ap.2.1 k hk).1 h1
  ·have:=(Qak h.waits k hk).2;omega
 ·rcases hy k hyk with h1|h1
  ·exact ap.2.2 k hk h1
  ·have:=(Qak h.out k hk).2;omega
theorem OwnDk.base {C:Nat} (h:OwnDk Z B d w va vg vs vw vo) (hc:C≤B):OwnDk Z C d w va vg vs vw vo:=by
 have fr:∀k,Qjf Z B vs vw vo k→Qjf Z C vs vw vo k:=fun k hk=>⟨Nat.le_trans hc hk.1,hk.2⟩
 exact⟨h.is,h.ic,h.atoms.more gAt (fun k hk _=>fr k hk),h.gone.more gMk (fun k hk _=>fr k hk),Qcx hc h.seen,Qcx hc (Qbt gNo h.waits (fun k hk hl _=>fr k hk)),Qcx hc (Qbt gNo h.out (fun k hk hl _=>fr k hk)),h.apart⟩
theorem OwnDk.read (h:OwnDk Z B d w va vg vs vw vo):RDk (fun k=>B≤k) w [.int .i64 d.site,va,vg,vs,vw,.int .i64 d.clock,vo] d:=
 ⟨va,vg,vs,vw,vo,rfl,h.is,h.atoms.more gAt (fun _ hk _=>hk.1),h.gone.more gMk (fun _ hk _=>hk.1),Qaz Qd6 (Qf3 Qkx (G:=fun k=>B≤k) h.seen) (fun _ hk _=>hk) (fun _ hk=>hk),
  Qaz gNo h.waits (fun _ hk _=>hk.1) (fun _ hk=>hk),h.ic,Qaz gNo h.out (fun _ hk _=>hk.1) (fun _ hk=>hk)⟩
end
theorem Q60 {d:Dk} {w w1 w2 w3 w4 w':World} {va vg vs vw vo:Value} (is:I64 d.site) (ic:I64 d.clock) (h0:w.heap.size≤w1.heap.size) (x2:w1.heap.size≤w2.heap.size) (x3:w2.heap.size≤w3.heap.size) (x4:w3.heap.size≤w4.heap.size) (x5:w4.heap.size≤w'.heap.size)
  (ha:RSl RAt 3 (fun k=>w.heap.size≤k∧k<w1.heap.size) w' va d.state.1) (hg:RSl RMk 2 (fun k=>w.heap.size≤k∧k<w1.heap.size) w' vg d.state.2)
  (hs:OSl Qe1 1 3 w1.heap.size (fun _=>True) w' vs d.seen) (hs':∀k,vs.ownBlock=some k→k<w2.heap.size)
  (hw:OSl RNo 4 48 w2.heap.size (fun k=>w2.heap.size≤k∧k<w3.heap.size) w' vw d.waits) (hw':∀k,vw.ownBlock=some k→k<w3.heap.size)
  (ho:OSl RNo 4 48 w3.heap.size (fun k=>w3.heap.size≤k∧k<w4.heap.size) w' vo d.out) (ho':∀k,vo.ownBlock=some k→k<w4.heap.size) {Z:Nat→Prop} (hZ:∀k,Z k→w'.heap.size≤k):
  OwnDk Z w.heap.size d w' va vg vs vw vo:=by
 have ls:=Qak hs;have lw:=Qak hw;have lo:=Qak ho;have nz:∀k,k<w4.heap.size→¬Z k:=fun k hk hz=>by have:=hZ k hz;omega
 have fr:∀k,w.heap.size≤k→k<w1.heap.size→Qjf Z w.heap.size vs vw vo k:=fun k h1 h2=>
  ⟨h1,nz k oM,fun e=>by have:=(ls k e.symm).1;omega,fun e=>by have:=(lw k e.symm).1;omega,fun e=>by have:=(lo k e.symm).1;omega⟩
 refine⟨is,ic,ha.more gAt (fun k hk _=>fr k hk.1 hk.2),hg.more gMk (fun k hk _=>fr k hk.1 hk.2),Qcx oM hs,?_,?_,?_⟩
 ·refine Qcx oM (Qbt gNo hw (fun k hk _ hne=>⟨oM,nz k oM,fun e=>by have:=hs' k e.symm;omega,hne,fun e=>by have:=(lo k e.symm).1;omega⟩))
 ·refine Qcx oM (Qbt gNo ho (fun k hk _ hne=>⟨oM,nz k oM,fun e=>by have:=hs' k e.symm;omega,fun e=>by have:=hw' k e.symm;omega,hne⟩))
 ·exact⟨fun k hk=>⟨nz k (by have:=hs' k hk;omega),fun e=>by have:=(lw k e).1;have:=hs' k hk;omega,fun e=>by have:=(lo k e).1;have:=hs' k hk;omega⟩,fun k hk=>⟨nz k (by have:=hw' k hk;omega),fun e=>by have:=(lo k e).1;have:=hw' k hk;omega⟩,fun k hk=>nz k (by have:=ho' k hk;omega)⟩
theorem Q3h {d:Dk} {w W0 w3 w4 w5 w6 wf:World} {v3 u3 v4 v5 v6:Value} (hi:I64 d.site∧I64 d.clock) (hz:W0.heap.size=w.heap.size+1+1) (x3:Ext W0 w3) (x4:Ext w3 w4) (x5:Ext w4 w5) (x6:Ext w5 w6)
  (ha:OSl RAt 3 129 W0.heap.size (fun j=>W0.heap.size≤j∧some j≠u3.ownBlock) w3 v3 d.state.1) (hg:OSl RMk 2 103 W0.heap.size (fun j=>W0.heap.size≤j∧some j≠v3.ownBlock) w3 u3 d.state.2)
  (hs:OSl Qe1 1 3 w3.heap.size (fun _=>True) w4 v4 d.seen) (hw:OSl RNo 4 48 w4.heap.size (fun j=>w4.heap.size≤j) w5 v5 d.waits) (ho:OSl RNo 4 48 w5.heap.size (fun j=>w5.heap.size≤j) w6 v6 d.out)
  (hk:Keeps (fun k=>k≠w.heap.size+1) w6 wf) {Z:Nat→Prop} (hZ:∀k,Z k→wf.heap.size≤k):OwnDk Z w.heap.size d wf v3 u3 v4 v5 v6:=by
 have s3:=x3.size;have s4:=x4.size;have s5:=x5.size;have s6:=x6.size;have sf:=hk.size;have k6:∀{n:Nat},w.heap.size+1+1≤n→Keeps (fun k=>n≤k) w6 wf:=fun hn=>hk.weaken (fun k _ h=>by have h':_≤k:=h;show k≠w.heap.size+1;omega)
 have k5:∀{n:Nat},w.heap.size+1+1≤n→Keeps (fun k=>n≤k) w5 wf:=fun hn=>(Keeps.of_below x6).trans (k6 hn)
 have k4:∀{n:Nat},w.heap.size+1+1≤n→Keeps (fun k=>n≤k) w4 wf:=fun hn=>(Keeps.of_below x5).trans (k5 hn)
 have k3:∀{n:Nat},w.heap.size+1+1≤n→Keeps (fun k=>n≤k) w3 wf:=fun hn=>(Keeps.of_below x4).trans (k4 hn)
 have hA:RSl RAt 3 (fun k=>W0.heap.size≤k∧k<w3.heap.size) w3 v3 d.state.1:=(Qaz gAt ha (G:=fun k=>W0.heap.size≤k) (fun _ h _=>h.1) (fun _ h=>h)).more gAt (fun k h hl=>⟨h,hl⟩);have hG:RSl RMk 2 (fun k=>W0.heap.size≤k∧k<w3.heap.size) w3 u3 d.state.2:=(Qaz gMk hg (G:=fun k=>W0.heap.size≤k) (fun _ h _=>h.1) (fun _ h=>h)).more gMk (fun k h hl=>⟨h,hl⟩);have ls:=Qak hs;have lw:=Qak hw;have lo:=Qak ho;refine Q60 (w1:=w3) (w2:=w4) (w3:=w5) (w4:=w6) hi.1 hi.2 oM s4 s5 s6 sf ?_ ?_ ?_ (fun k h=>(ls k h).2) ?_ (fun k h=>(lw k h).2) ?_ (fun k h=>(lo k h).2) hZ
 ·exact(hA.keep gAt ((k3 (n:=W0.heap.size) oM).weaken (fun k _ h=>h.1))).more gAt (fun k h _=>⟨oM,h.2⟩)
 ·exact(hG.keep gMk ((k3 (n:=W0.heap.size) oM).weaken (fun k _ h=>h.1))).more gMk (fun k h _=>⟨oM,h.2⟩)
 ·exact Qe8 Qqt hs (fun k h=>(k4 (n:=w3.heap.size) oM).block k (ls k h).1 (ls k h).2)
 ·refine Qa8 gNo (Qbt gNo hw (fun k h hl _=>⟨h,hl⟩)) ((k5 (n:=w4.heap.size) oM).weaken (fun k _ h=> ?_));rcases h with h|h
  ·exact h.1
  ·exact(lw k h.symm).1
 ·refine Qa8 gNo (Qbt gNo ho (fun k h hl _=>⟨h,hl⟩)) ((k6 (n:=w5.heap.size) oM).weaken (fun k _ h=> ?_));rcases h with h|h
  ·exact h.1
  ·exact(lo k h.symm).1
theorem Qdr {F:Nat→Prop} {w:World} {cs:List Value} {d:Dk} (h:RDk F w cs d) (hst:Qpy d.state) (h5:d.seen.length≤1000) (hlw:d.waits.length≤1000) (hlo:d.out.length≤1000) (hnw:∀n∈d.waits,Qa0 n=0) (hno:∀n∈d.out,Qa0 n=0):
  Calls Tryz.prog 86 #[.agg cs.toArray] w (Vay d w):=by
 obtain⟨va,vg,vs,vw,vo,rfl,ist,ha,hg,hq,hw,ick,ho⟩:=h;obtain⟨st,ss,sn,wt,ck,ou⟩:=d;simp only at ha hg hq hw ho ick ist hst h5 hlw hlo hnw hno ⊢;obtain⟨a1,n1,c1,rfl⟩:=ha.slice;obtain⟨a2,n2,c2,rfl⟩:=hg.slice;obtain⟨a3,n3,c3,rfl⟩:=hq.slice;obtain⟨a4,n4,c4,rfl⟩:=hw.slice;obtain⟨a5,n5,c5,rfl⟩:=ho.slice;have HST:=hH (fun(W:World) (hx:Ext w W)=>Qm0 (Qh1 (ha.ext gAt hx) (hg.ext gMk hx)) (Nat.le_trans hst.2.1 oM) (Nat.le_trans hst.2.2 oM) (fun a hm=>Nat.le_trans (checkM_ok.1 (hst.1.1.2 a hm).1).1 oM) (fun m hm=>Nat.le_trans (checkM_ok.1 (hst.1.2.2.1 m hm)).1 oM));have HCI:=hH (fun(W:World) (hx:Ext w W)=>Qhr (hq.ext Qd6 hx) (Nat.le_trans h5 oM));have HNW:=hH (fun(W:World) (hx:Ext w W)=>Qld (hw.ext gNo hx) hlw hnw);have HNO:=hH (fun(W:World) (hx:Ext w W)=>Qld (ho.ext gNo hx) hlo hno);have HI:=hH (And.intro ist ick);clear ha hg hq hw ho hst h5 hlw hlo hnw hno ist ick;go_enter Tryz.func86,Tryz.ntmps86;go_wp2_with fail
 refine Qad (fun W0 eW0=> ?_);obtain⟨x0,x1,x2,x3,x4,x5,x6⟩:=rR7 eW0 w.heap.size (.int .i64 st) (.slice a1 n1 c1) (.slice a2 n2 c2) (.slice a3 n3 c3) (.slice a4 n4 c4) (.int .i64 ck) (.slice a5 n5 c5);have HY:=hH (show∀(i:Nat) (v:Value),([.int .i64 0,.slice none 0 0,.slice none 0 0,.slice none 0 0,.slice none 0 0,.int .i64 0,.slice none 0 0]:List Value)[i]?=some v→W0.cell? ⟨w.heap.size+1,i,none⟩=some v by
  intro i v hv;rw[eW0]
  match i,hv with
  |0,hv=>injection hv with hv;subst hv;go_simp
  |1,hv=>injection hv with hv;subst hv;go_simp
  |2,hv=>injection hv with hv;subst hv;go_simp
  |3,hv=>injection hv with hv;subst hv;go_simp
  |4,hv=>injection hv with hv;subst hv;go_simp
  |5,hv=>injection hv with hv;subst hv;go_simp
  |6,hv=>injection hv with hv;subst hv;go_simp
  |i+7,hv=>simp at hv)
 have HF0:=hH (show∀o,W0.frozen? ⟨w.heap.size+1,o,none⟩=false by intro o;rw[eW0];go_simp);have hz0:W0.heap.size=w.heap.size+1+1:=by rw[eW0];simp
 have z0:w.heap.size<W0.heap.size:=oM;have z1:w.heap.size+1<W0.heap.size:=oM;have HW0:=hH (xE w eW0);have HZ0:=hH hz0;clear eW0 hz0;go_region_held3 (fun W=>W.cell? ⟨w.heap.size,0,none⟩=some (.int .i64 st)∧W.cell? ⟨w.heap.size,1,none⟩=some (.slice a1 n1 c1)∧W.cell? ⟨w.heap.size,2,none⟩=some (.slice a2 n2 c2)∧W.cell? ⟨w.heap.size,3,none⟩=some (.slice a3 n3 c3)∧W.cell? ⟨w.heap.size,4,none⟩=some (.slice a4 n4 c4)∧W.cell? ⟨w.heap.size,5,none⟩=some (.int .i64 ck)∧W.cell? ⟨w.heap.size,6,none⟩=some (.slice a5 n5 c5)) (first|(with_reducible exact⟨(HX6.o.cells _ _ z0).trans x0,(HX6.o.cells _ _ z0).trans x1,(HX6.o.cells _ _ z0).trans x2,(HX6.o.cells _ _ z0).trans x3,(HX6.o.cells _ _ z0).trans x4,(HX6.o.cells _ _ z0).trans x5,(HX6.o.cells _ _ z0).trans x6⟩)|(with_reducible exact⟨(HX5.o.cells _ _ z0).trans x0,(HX5.o.cells _ _ z0).trans x1,(HX5.o.cells _ _ z0).trans x2,(HX5.o.cells _ _ z0).trans x3,(HX5.o.cells _ _ z0).trans x4,(HX5.o.cells _ _ z0).trans x5,(HX5.o.cells _ _ z0).trans x6⟩)|(with_reducible exact⟨(HX4.o.cells _ _ z0).trans x0,(HX4.o.cells _ _ z0).trans x1,(HX4.o.cells _ _ z0).trans x2,(HX4.o.cells _ _ z0).trans x3,(HX4.o.cells _ _ z0).trans x4,(HX4.o.cells _ _ z0).trans x5,(HX4.o.cells _ _ z0).trans x6⟩)|(with_reducible exact⟨(HX3.o.cells _ _ z0).trans x0,(HX3.o.cells _ _ z0).trans x1,(HX3.o.cells _ _ z0).trans x2,(HX3.o.cells _ _ z0).trans x3,(HX3.o.cells _ _ z0).trans x4,(HX3.o.cells _ _ z0).trans x5,(HX3.o.cells _ _ z0).trans x6⟩)|(with_reducible exact⟨x0,x1,x2,x3,x4,x5,x6⟩)|(refine⟨?_,?_,?_,?_,?_,?_,?_⟩<;>go_simp)|go_keep) (first|(go_at_call 153;((with_reducible refine(HST.o _ (ext_trans HW0.o Qac)).mono ?_);rintro e w3 ⟨v3,u3,rfl,oa3,og3,_,hx3⟩;obtain⟨p1,q1,r1,rfl⟩:=Qab oa3;obtain⟨p2,q2,r2,rfl⟩:=Qab og3;have HA3:=hH oa3;have HG3:=hH og3;clear oa3 og3;have HX3:=xY W0 hx3;clear hx3))|(go_at_call 109;((with_reducible refine(HCI.o _ (ext_trans HW0.o (ext_trans HX3.o Qac))).mono ?_);rintro e w4 ⟨v4,rfl,os4,hx4⟩;obtain⟨p3,q3,r3,rfl⟩:=Qab os4;have HS4:=hH os4;clear os4;have HX4:=xX HX3 hx4;have HX43:=xY w3 hx4;clear hx4))|(go_at_call 99;((with_reducible refine(HNW.o _ (ext_trans HW0.o (ext_trans HX4.o Qac))).mono ?_);rintro e w5 ⟨v5,rfl,ow5,hx5⟩;obtain⟨p4,q4,r4,rfl⟩:=Qab ow5;have HW5:=hH ow5;clear ow5;have HX5:=xX HX4 hx5;have HX54:=xY w4 hx5;clear hx5))|(go_at_call 99;((with_reducible refine(HNO.o _ (ext_trans HW0.o (ext_trans HX5.o Qac))).mono ?_);rintro e w6 ⟨v6,rfl,oo6,hx6⟩;obtain⟨p5,q5,r5,rfl⟩:=Qab oo6;have HO6:=hH oo6;clear oo6;have HX6:=xX HX5 hx6;obtain⟨c6_0,c6_1,c6_2,c6_3,c6_4,c6_5,c6_6⟩:=tT7 HX6.o z0 x0 x1 x2 x3 x4 x5 x6;have d6_0:=(HX6.o.cells (w.heap.size+1) 0 z1).trans (HY.o 0 _ rfl);have d6_1:=(HX6.o.cells (w.heap.size+1) 1 z1).trans (HY.o 1 _ rfl);have d6_2:=(HX6.o.cells (w.heap.size+1) 2 z1).trans (HY.o 2 _ rfl);have d6_3:=(HX6.o.cells (w.heap.size+1) 3 z1).trans (HY.o 3 _ rfl);have d6_4:=(HX6.o.cells (w.heap.size+1) 4 z1).trans (HY.o 4 _ rfl);have d6_5:=(HX6.o.cells (w.heap.size+1) 5 z1).trans (HY.o 5 _ rfl);have d6_6:=(HX6.o.cells (w.heap.size+1) 6 z1).trans (HY.o 6 _ rfl);have g6_0:=(HX6.o.frz (w.heap.size+1) 0 z1).trans (HF0.o 0);have g6_1:=(HX6.o.frz (w.heap.size+1) 1 z1).trans (HF0.o 1);have g6_2:=(HX6.o.frz (w.heap.size+1) 2 z1).trans (HF0.o 2);have g6_3:=(HX6.o.frz (w.heap.size+1) 3 z1).trans (HF0.o 3);have g6_4:=(HX6.o.frz (w.heap.size+1) 4 z1).trans (HF0.o 4);have g6_5:=(HX6.o.frz (w.heap.size+1) 5 z1).trans (HF0.o 5);have g6_6:=(HX6.o.frz (w.heap.size+1) 6 z1).trans (HF0.o 6);have HX65:=xY w5 hx6;clear hx6)))
 go_wp2_with fail
 refine bodyPost_ret (v:= .agg #[.int .i64 st,.slice p1 q1 r1,.slice p2 q2 r2,.slice p3 q3 r3,.slice p4 q4 r4,.int .i64 ck,.slice p5 q5 r5]) (by simp[results,Tryz.results86,go_sem,d6_0,d6_1,d6_2,d6_3,d6_4,d6_5,d6_6]) rfl ⟨_,_,_,_,_,rfl,fun Z hZ=>Q3h (d:=⟨st,ss,sn,wt,ck,ou⟩) HI.o HZ0.o HX3.o HX43.o HX54.o HX65.o HA3.o HG3.o HS4.o HW5.o HO6.o ?_ hZ,?_⟩
 ·repeat(refine Qae ?_ sI _)
  exact Qag
 ·repeat(refine ext_set ?_ (by show w.heap.size≤w.heap.size+1;omega) _)
  exact ext_trans HW0.o (ext_trans HX6.o Qac)
end Go.Proofs.YtgnccjojfebkeaaGreat
