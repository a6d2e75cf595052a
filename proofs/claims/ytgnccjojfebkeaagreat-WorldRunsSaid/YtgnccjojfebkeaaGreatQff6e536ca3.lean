/- Equal desks; no desk. -/
import Derived.Test.YtgnccjojfebkeaaGreatQ3b8532dffc
import Derived.Test.YtgnccjojfebkeaaGreatQ453a98ae2d
import Derived.Test.YtgnccjojfebkeaaGreatQ23fd3e177e
import Derived.Test.YtgnccjojfebkeaaGreatQa70fadfe36
import Derived.Test.YtgnccjojfebkeaaGreatQ7635b71608
import Derived.Test.YtgnccjojfebkeaaGreatQ28838248a8
import Derived.Test.YtgnccjojfebkeaaGreatQ721193eec0
import Derived.Test.YtgnccjojfebkeaaGreatQ5e94ee24c9
import Derived.Test.YtgnccjojfebkeaaGreatQ8c79696ad7
import Derived.Test.YtgnccjojfebkeaaGreatQb497ca1fba
import Derived.Test.YtgnccjojfebkeaaGreatQe1689ae885
import Derived.Test.YtgnccjojfebkeaaGreatQ37a248829e
import Derived.Deep.Cut
import Derived.Test.YtgnccjojfebkeaaGreatQ9ccf8d356f
import Derived.Test.YtgnccjojfebkeaaGreatQe32eab58c1
import Derived.WalkKit
import Derived.Test.YtgnccjojfebkeaaGreatQd02bb5fa7b
import Derived.Deep.RegionLaw
import Derived.BigQuiet
set_option linter.unusedVariables false
set_option linter.unusedSimpArgs false
set_option maxRecDepth 100000
set_option maxHeartbeats 40000000
namespace Go.Proofs.YtgnccjojfebkeaaGreat
open Go Go.RowKit Go.BigFrame Cp
theorem Qur {F G:Nat→Prop} {w:World} {cs ds:List Value} {d:Dk} (h:RDk F w cs d) (k:RDk G w ds d):
  Calls Tryz.prog 33 #[.agg cs.toArray,.agg ds.toArray] w fun e w'=>e= .returned (.bool true)∧Ext w w':=by
 obtain⟨va,vg,vs,vw,vo,rfl,_,ha,hg,hq,hw,_,ho⟩:=h;obtain⟨va',vg',vs',vw',vo',rfl,_,ka,kg,kq,kw,_,ko⟩:=k;obtain⟨st,ss,sn,wt,ck,ou⟩:=d;simp only at ha hg hq hw ho ka kg kq kw ko ⊢;have HSS:=hH (fun(W:World) (hx:Ext w W)=>Qsv (Qh1 (ha.ext gAt hx) (hg.ext gMk hx)) (Qh1 (ka.ext gAt hx) (kg.ext gMk hx)));have HSI:=hH (fun(W:World) (hx:Ext w W)=>(show Calls Tryz.prog 57 #[vs,vs'] W fun e w'=>e= .returned (.bool true)∧Ext W w' from by have h:=Qm3 (hq.ext Qd6 hx) (kq.ext Qd6 hx);rw[decide_eq_true rfl] at h;exact h));have HSW:=hH (fun(W:World) (hx:Ext w W)=>Qlk (hw.ext gNo hx) (kw.ext gNo hx));have HSO:=hH (fun(W:World) (hx:Ext w W)=>Qlk (ho.ext gNo hx) (ko.ext gNo hx));have HSO':=hH trivial;obtain⟨a1,n1,k1,rfl⟩:=ha.slice;obtain⟨a1',n1',k1',rfl⟩:=ka.slice;obtain rfl:n1=n1':=ha.len.1.trans ka.len.1.symm;obtain⟨a2,n2,k2,rfl⟩:=hg.slice;obtain⟨a2',n2',k2',rfl⟩:=kg.slice;obtain rfl:n2=n2':=hg.len.1.trans kg.len.1.symm;obtain⟨a3,n3,k3,rfl⟩:=hq.slice;obtain⟨a3',n3',k3',rfl⟩:=kq.slice;obtain rfl:n3=n3':=hq.len.1.trans kq.len.1.symm;obtain⟨a4,n4,k4,rfl⟩:=hw.slice;obtain⟨a4',n4',k4',rfl⟩:=kw.slice;obtain rfl:n4=n4':=hw.len.1.trans kw.len.1.symm;obtain⟨a5,n5,k5,rfl⟩:=ho.slice;obtain⟨a5',n5',k5',rfl⟩:=ko.slice;obtain rfl:n5=n5':=ho.len.1.trans ko.len.1.symm;clear ha hg hq hw ho ka kg kq kw ko;go_enter Tryz.func33,Tryz.ntmps33;go_wp2_with (first|(go_at_call 56;go_must ((with_reducible refine(HSS.o _ Qac).mono ?_);rintro e w3 ⟨rfl,hx3⟩;have HX3:=xY w hx3;obtain⟨c3_0,c3_1,c3_2,c3_3,c3_4,c3_5,c3_6⟩:=cC7 hx3 w.heap.size (.int .i64 st) (.slice a1 n1 k1) (.slice a2 n2 k2) (.slice a3 n3 k3) (.slice a4 n4 k4) (.int .i64 ck) (.slice a5 n5 k5);obtain⟨d3_0,d3_1,d3_2,d3_3,d3_4,d3_5,d3_6⟩:=cC7 hx3 (w.heap.size+1) (.int .i64 st) (.slice a1' n1 k1') (.slice a2' n2 k2') (.slice a3' n3 k3') (.slice a4' n4 k4') (.int .i64 ck) (.slice a5' n5 k5');have hb3:w.heap.size+1<w3.heap.size:=(by have:=hx3.size;(try simp at this);omega);clear hx3))|(go_at_call 57;go_must ((with_reducible refine(HSI.o _ (ext_trans HX3.o Qac)).mono ?_);rintro e w4 ⟨rfl,hx4⟩;have HX4:=xX HX3 hx4;obtain⟨c4_0,c4_1,c4_2,c4_3,c4_4,c4_5,c4_6⟩:=cC7 hx4 w.heap.size (.int .i64 st) (.slice a1 n1 k1) (.slice a2 n2 k2) (.slice a3 n3 k3) (.slice a4 n4 k4) (.int .i64 ck) (.slice a5 n5 k5);obtain⟨d4_0,d4_1,d4_2,d4_3,d4_4,d4_5,d4_6⟩:=cC7 hx4 (w.heap.size+1) (.int .i64 st) (.slice a1' n1 k1') (.slice a2' n2 k2') (.slice a3' n3 k3') (.slice a4' n4 k4') (.int .i64 ck) (.slice a5' n5 k5');have hb4:w.heap.size+1<w4.heap.size:=(by have:=hx4.size;(try simp at this);omega);clear hx4))|(go_at_call 60;(clear HSO');((with_reducible refine(HSW.o _ (ext_trans HX4.o Qac)).mono ?_);rintro e w5 ⟨rfl,hx5⟩;have HX5:=xX HX4 hx5;obtain⟨c5_0,c5_1,c5_2,c5_3,c5_4,c5_5,c5_6⟩:=cC7 hx5 w.heap.size (.int .i64 st) (.slice a1 n1 k1) (.slice a2 n2 k2) (.slice a3 n3 k3) (.slice a4 n4 k4) (.int .i64 ck) (.slice a5 n5 k5);obtain⟨d5_0,d5_1,d5_2,d5_3,d5_4,d5_5,d5_6⟩:=cC7 hx5 (w.heap.size+1) (.int .i64 st) (.slice a1' n1 k1') (.slice a2' n2 k2') (.slice a3' n3 k3') (.slice a4' n4 k4') (.int .i64 ck) (.slice a5' n5 k5');have hb5:w.heap.size+1<w5.heap.size:=(by have:=hx5.size;(try simp at this);omega);clear hx5))|(go_at_call 60;((with_reducible refine(HSO.o _ (ext_trans HX5.o Qac)).mono ?_);rintro e w6 ⟨rfl,hx6⟩;have HX6:=xX HX5 hx6;clear hx6)))
 go_ret;exact⟨rfl,ext_trans HX6.o Qac⟩
def Vli (d:Dk) (er:Int) (w:World) (e:Ending) (w':World):Prop:=
 ∃(a1:Option Addr) (n1 c1:Nat) (a2:Option Addr) (n2 c2:Nat) (a3:Option Addr) (n3 c3:Nat) (a4:Option Addr) (n4 c4:Nat) (a5:Option Addr) (n5 c5:Nat),e= .returned (.tuple #[.agg #[.int .i64 d.site,.slice a1 n1 c1,.slice a2 n2 c2,.slice a3 n3 c3,.slice a4 n4 c4,.int .i64 d.clock,.slice a5 n5 c5],.int .i64 er])∧RDk (fun k=>w.heap.size≤k) w' [.int .i64 d.site,.slice a1 n1 c1,.slice a2 n2 c2,.slice a3 n3 c3,.slice a4 n4 c4,.int .i64 d.clock,.slice a5 n5 c5] d∧Ext w w'
theorem Vhp {d:Dk} {er:Int} {w:World} {e:Ending} {w':World} (h:Qm5 d er w e w'):Vli d er w e w':=by
 obtain⟨va,vg,vs,vw,vo,rfl,hd,hx⟩:=h;have hd':=hd;obtain⟨_,_,_,_,_,he,_,h1,h2,h3,h4,_,h5'⟩:=hd;injection he with _ he
 injection he with e1 he
 injection he with e2 he
 injection he with e3 he
 injection he with e4 he
 injection he with _ he
 injection he with e5 _
 subst e1 e2 e3 e4 e5;obtain⟨a1,n1,c1,rfl⟩:=h1.slice;obtain⟨a2,n2,c2,rfl⟩:=h2.slice;obtain⟨a3,n3,c3,rfl⟩:=h3.slice;obtain⟨a4,n4,c4,rfl⟩:=h4.slice;obtain⟨a5,n5,c5,rfl⟩:=h5'.slice;exact⟨_,_,_,_,_,_,_,_,_,_,_,_,_,_,_,rfl,hd',hx⟩
theorem Vea {F:Nat→Prop} {w:World} {s c:Int} {va vg vs vw vo:Value} {d:Dk} (h:RDk F w [.int .i64 s,va,vg,vs,vw,.int .i64 c,vo] d):
  RSl RAt 3 F w va d.state.1∧RSl RMk 2 F w vg d.state.2∧RSl Qe1 1 F w vs d.seen∧RSl RNo 4 F w vw d.waits∧RSl RNo 4 F w vo d.out:=by
 obtain⟨_,_,_,_,_,he,_,h1,h2,h3,h4,_,h5⟩:=h;injection he with _ he
 injection he with e1 he
 injection he with e2 he
 injection he with e3 he
 injection he with e4 he
 injection he with _ he
 injection he with e5 _
 subst e1 e2 e3 e4 e5;exact⟨h1,h2,h3,h4,h5⟩
structure DkAt (F:Nat→Prop) (b:Nat) (d:Dk) (w:World) (va vg vs vw vo:Value):Prop where
 c0:w.cell? ⟨b,0,none⟩=some (.int .i64 d.site)
 c1:w.cell? ⟨b,1,none⟩=some (va)
 c2:w.cell? ⟨b,2,none⟩=some (vg)
 c3:w.cell? ⟨b,3,none⟩=some (vs)
 c4:w.cell? ⟨b,4,none⟩=some (vw)
 c5:w.cell? ⟨b,5,none⟩=some (.int .i64 d.clock)
 c6:w.cell? ⟨b,6,none⟩=some (vo)
 fz:∀o,w.frozen? ⟨b,o,none⟩=false
 rd:RDk F w [.int .i64 d.site,va,vg,vs,vw,.int .i64 d.clock,vo] d
section
variable {F G:Nat→Prop} {b:Nat} {d:Dk} {w w':World} {va vg vs vw vo:Value}
theorem DkAt.lt (h:DkAt F b d w va vg vs vw vo):b<w.heap.size:=World.block_lt_of_cell? _ _ h.c0
theorem DkAt.ext (h:DkAt F b d w va vg vs vw vo) (hx:Ext w w'):DkAt F b d w' va vg vs vw vo:=
 ⟨(hx.cells _ _ h.lt).trans h.c0,(hx.cells _ _ h.lt).trans h.c1,(hx.cells _ _ h.lt).trans h.c2,(hx.cells _ _ h.lt).trans h.c3,(hx.cells _ _ h.lt).trans h.c4,(hx.cells _ _ h.lt).trans h.c5,(hx.cells _ _ h.lt).trans h.c6,fun o=>(hx.frz _ _ h.lt).trans (h.fz o),gDk.ext h.rd hx⟩
theorem DkAt.read (h:DkAt F b d w va vg vs vw vo):RDk (fun _=>True) w [.int .i64 d.site,va,vg,vs,vw,.int .i64 d.clock,vo] d:=gDk.more (fun _ _ _=>trivial) h.rd
theorem DkAt.seven (h:DkAt F b d w va vg vs vw vo):w.cell? ⟨b,0,none⟩=some (.int .i64 d.site)∧w.cell? ⟨b,1,none⟩=some (va)∧w.cell? ⟨b,2,none⟩=some (vg)∧w.cell? ⟨b,3,none⟩=some (vs)∧w.cell? ⟨b,4,none⟩=some (vw)∧w.cell? ⟨b,5,none⟩=some (.int .i64 d.clock)∧w.cell? ⟨b,6,none⟩=some (vo):=⟨h.c0,h.c1,h.c2,h.c3,h.c4,h.c5,h.c6⟩
theorem DkAt.parts (h:DkAt F b d w va vg vs vw vo):RSl RAt 3 (fun _=>True) w va d.state.1∧RSl RMk 2 (fun _=>True) w vg d.state.2∧RSl Qe1 1 (fun _=>True) w vs d.seen∧RSl RNo 4 (fun _=>True) w vw d.waits∧RSl RNo 4 (fun _=>True) w vo d.out:=Vea h.read
end
def BoxOk (b:Nat) (w:World):Prop:=(∀i,i<7→∃v,w.cell? ⟨b,i,none⟩=some v)∧∀o,w.frozen? ⟨b,o,none⟩=false
section
variable {F G:Nat→Prop} {b:Nat} {d:Dk} {w w':World} {va vg vs vw vo:Value}
theorem DkAt.ok (h:DkAt F b d w va vg vs vw vo):BoxOk b w:=⟨fun i hi=>by
 match i,hi with
 |0,_=>exact⟨_,h.c0⟩
 |1,_=>exact⟨_,h.c1⟩
 |2,_=>exact⟨_,h.c2⟩
 |3,_=>exact⟨_,h.c3⟩
 |4,_=>exact⟨_,h.c4⟩
 |5,_=>exact⟨_,h.c5⟩
 |6,_=>exact⟨_,h.c6⟩
 |i+7,h=>omega,h.fz⟩
theorem DkAt.more (h:DkAt F b d w va vg vs vw vo) (hg:∀k,F k→G k):DkAt G b d w va vg vs vw vo:=⟨h.c0,h.c1,h.c2,h.c3,h.c4,h.c5,h.c6,h.fz,gDk.more (fun k hk _=>hg k hk) h.rd⟩
theorem Vkz {cs:List Value} (h:RDk F w cs d) {a:Addr} (hF:¬F a.block) (u:Value):RDk F (w.setCell a u) cs d:=gDk.keep (Qae Qag (fun _=>hF) u) h
theorem BoxOk.put (h:BoxOk b w) (r:RDk F w [.int .i64 d.site,va,vg,vs,vw,.int .i64 d.clock,vo] d) (hF:¬F b):DkAt F b d ((((((((w.setCell ⟨b,0,none⟩ (.int .i64 d.site)).setCell ⟨b,1,none⟩ (va)).setCell ⟨b,2,none⟩ (vg)).setCell ⟨b,3,none⟩ (vs)).setCell ⟨b,4,none⟩ (vw)).setCell ⟨b,5,none⟩ (.int .i64 d.clock)).setCell ⟨b,6,none⟩ (vo))) va vg vs vw vo:=by
 obtain⟨hc,hf⟩:=h;obtain⟨u0,k0⟩:=hc 0 oM;obtain⟨u1,k1⟩:=hc 1 oM;obtain⟨u2,k2⟩:=hc 2 oM;obtain⟨u3,k3⟩:=hc 3 oM;obtain⟨u4,k4⟩:=hc 4 oM;obtain⟨u5,k5⟩:=hc 5 oM;obtain⟨u6,k6⟩:=hc 6 oM;have f0:=hf 0;have f1:=hf 1;have f2:=hf 2;have f3:=hf 3;have f4:=hf 4;have f5:=hf 5;have f6:=hf 6;refine⟨gS,gS,gS,gS,gS,gS,gS,fun o=>by have:=hf o;go_simp,?_⟩;repeat(refine Vkz ?_ hF _)
 exact r
end
theorem Veb {T G:Prop} (h:T) (k:T→G):G:=k h
structure Cl where
 desk:Dk
 cursor:Int
structure Wd where
 clients:List Cl
 log:List No
def RCl (F:Nat→Prop) (w:World) (cs:List Value) (c:Cl):Prop:=
 ∃va vg vs vw vo,cs=[.int .i64 c.desk.site,va,vg,vs,vw,.int .i64 c.desk.clock,vo,.int .i64 c.cursor]∧RDk F w [.int .i64 c.desk.site,va,vg,vs,vw,.int .i64 c.desk.clock,vo] c.desk∧I64 c.cursor
theorem gCl:Cp.Good RCl:=
 ⟨fun hk ⟨a,b,c,d,e,h0,h1,h2⟩=>⟨a,b,c,d,e,h0,gDk.keep hk h1,h2⟩,fun hg ⟨a,b,c,d,e,h0,h1,h2⟩=>⟨a,b,c,d,e,h0,gDk.more hg h1,h2⟩⟩
theorem Vec {F:Nat→Prop} {w:World} {a:Option Addr} {n cap:Nat} {q:List Cl} (h:RSl RCl 8 F w (.slice a n cap) q) {i:Nat} (hi:i<n):
  ∃b o c a1 n1 c1 a2 n2 c2 a3 n3 c3 a4 n4 c4 a5 n5 c5,a=some ⟨b,o,none⟩∧b<w.heap.size∧q[i]?=some c∧I64 c.cursor∧RDk F w [.int .i64 c.desk.site,.slice a1 n1 c1,.slice a2 n2 c2,.slice a3 n3 c3,.slice a4 n4 c4,.int .i64 c.desk.clock,.slice a5 n5 c5] c.desk∧
   w.cell? ⟨b,o+i * 8,none⟩=some (.int .i64 c.desk.site)∧w.cell? ⟨b,o+i * 8+1,none⟩=some (.slice a1 n1 c1)∧w.cell? ⟨b,o+i * 8+2,none⟩=some (.slice a2 n2 c2)∧w.cell? ⟨b,o+i * 8+3,none⟩=some (.slice a3 n3 c3)∧
   w.cell? ⟨b,o+i * 8+4,none⟩=some (.slice a4 n4 c4)∧w.cell? ⟨b,o+i * 8+5,none⟩=some (.int .i64 c.desk.clock)∧w.cell? ⟨b,o+i * 8+6,none⟩=some (.slice a5 n5 c5)∧w.cell? ⟨b,o+i * 8+7,none⟩=some (.int .i64 c.cursor):=by
 obtain⟨b,o,c,cs,e1,e2,e3,_,e4,va,vg,vs,vw,vo,rfl,hd,hc⟩:=h.at_ hi;obtain⟨h1,h2,h3,h4,h5⟩:=Vea hd;obtain⟨a1,n1,c1,rfl⟩:=h1.slice;obtain⟨a2,n2,c2,rfl⟩:=h2.slice;obtain⟨a3,n3,c3,rfl⟩:=h3.slice;obtain⟨a4,n4,c4,rfl⟩:=h4.slice;obtain⟨a5,n5,c5,rfl⟩:=h5.slice;exact⟨b,o,c,_,_,_,_,_,_,_,_,_,_,_,_,_,_,_,e1,e2,e3,hc,hd,by simpa using e4 0 _ rfl,by simpa [Nat.add_assoc] using e4 1 _ rfl,by simpa [Nat.add_assoc] using e4 2 _ rfl,by simpa [Nat.add_assoc] using e4 3 _ rfl,by simpa [Nat.add_assoc] using e4 4 _ rfl,by simpa [Nat.add_assoc] using e4 5 _ rfl,by simpa [Nat.add_assoc] using e4 6 _ rfl,by simpa [Nat.add_assoc] using e4 7 _ rfl⟩
def RWd (F:Nat→Prop) (w:World) (v u:Value) (x:Wd):Prop:=RSl RCl 8 F w v x.clients∧RSl RNo 4 F w u x.log
theorem RWd.ext {F:Nat→Prop} {w w':World} {v u:Value} {x:Wd} (h:RWd F w v u x) (hx:Ext w w'):RWd F w' v u x:=⟨h.1.ext gCl hx,h.2.ext gNo hx⟩
theorem RWd.more {F G:Nat→Prop} {w:World} {v u:Value} {x:Wd} (h:RWd F w v u x) (hg:∀k,F k→k<w.heap.size→G k):RWd G w v u x:=⟨h.1.more gCl hg,h.2.more gNo hg⟩
def Ve6 (n i:Nat) (c:Cl):Int:=if Qaq c.desk≠0 then Qaq c.desk else if c.desk.site≠(i:Int) then 4 else if inB c.cursor 0 n=false then 3 else 0
def Vfz (n:Nat):Nat→List Cl→Int
 |_,[]=>0
 |i,c::r=>if Ve6 n i c≠0 then Ve6 n i c else Vfz n (i+1) r
def Vd8 (x:Wd):Int:=if inB x.clients.length 1 5=false then 3 else if Vfz x.log.length 0 x.clients≠0 then Vfz x.log.length 0 x.clients else Vd7 x.log
theorem Vgm {n i:Nat} {l:List Cl} {c:Cl} (h:l[i]?=some c):Vfz n i (l.drop i)=if Ve6 n i c≠0 then Ve6 n i c else Vfz n (i+1) (l.drop (i+1)):=by
 obtain⟨h1,h2⟩:=List.getElem?_eq_some_iff.1 h;rw[List.drop_eq_getElem_cons h1,h2];rfl
theorem Vho {n:Nat} {l:List Cl} {i:Nat} (h:l.length≤i):Vfz n i (l.drop i)=0:=by rw[List.drop_of_length_le h];rfl
theorem Vgk {n i:Nat} {c:Cl} (h:¬Qaq c.desk=0):Ve6 n i c=Qaq c.desk:=by unfold Ve6;rw[if_pos h]
theorem Vgl {n i:Nat} {c:Cl} (h:Qaq c.desk=0) (k:¬c.desk.site=(i:Int)):Ve6 n i c=4:=by unfold Ve6;rw[if_neg (by simpa using h),if_pos k]
theorem Vhn {n i:Nat} {c:Cl} (h:Qaq c.desk=0) (k:c.desk.site=(i:Int)) (g:inB c.cursor 0 n=false):Ve6 n i c=3:=by unfold Ve6;rw[if_neg (by simpa using h),if_neg (by simpa using k),if_pos g]
theorem Vii {n i:Nat} {c:Cl} (h:Qaq c.desk=0) (k:c.desk.site=(i:Int)) (g:inB c.cursor 0 n=true):Ve6 n i c=0:=by unfold Ve6;rw[if_neg (by simpa using h),if_neg (by simpa using k),if_neg (by simp[g])]
theorem Ve8 {x:Wd} (h:inB x.clients.length 1 5=false):Vd8 x=3:=by unfold Vd8;rw[if_pos h]
theorem Ve7 {x:Wd} (h:inB x.clients.length 1 5=true) {e:Int} (k:Vfz x.log.length 0 x.clients=e) (he:¬e=0):Vd8 x=e:=by unfold Vd8;rw[if_neg (by simp[h]),k,if_pos he]
theorem Ve9 {x:Wd} (h:inB x.clients.length 1 5=true) (k:Vfz x.log.length 0 x.clients=0):Vd8 x=Vd7 x.log:=by unfold Vd8;rw[if_neg (by simp[h]),k,if_neg sI]
theorem len_parts {n:Int}:(inB n 1 5=true→¬n<1∧¬5<n)∧(inB n 1 5=false→n<1∨5<n):=by
 unfold inB;constructor
 ·intro h;simp at h;omega
 ·intro h;simp at h;omega
theorem cur_parts {c:Int} {n:Nat}:(inB c 0 n=true→¬c<0∧¬(n:Int)<c)∧(inB c 0 n=false→c<0∨(n:Int)<c):=by
 unfold inB;constructor
 ·intro h;simp at h;omega
 ·intro h;simp at h;omega
theorem Zbj {p:Prop} (h:p:=by
 go_wp2_with (first|(go_at_call 55;go_must ((with_reducible refine(HCD.o _ Qac).mono ?_);rintro e w2 ⟨rfl,hx2⟩;obtain⟨q0,q1,q2,q3,q4,q5,q6,q7⟩:=cC8 hx2 wr.heap.size (.int .i64 c.desk.site) (.slice a1 n1 c1) (.slice a2 n2 c2) (.slice a3 n3 c3) (.slice a4 n4 c4) (.int .i64 c.desk.clock) (.slice a5 n5 c5) (.int .i64 c.cursor);obtain⟨r0,r1⟩:=cC2 hx2 w.heap.size (.slice (some ⟨b,o,none⟩) x.clients.length c0) (.slice a9 x.log.length c9);have hz2:=hx2.size;(try simp at hz2);have hb2:=zL hx2 wr.heap.size;have hw2:=zL hx2 w.heap.size;have HX2:=xY wr hx2;clear hx2)))
 go_ret;exact rt2 HE.o.symm (ext_trans HXR.o (ext_trans HX2.o Qac))):p:=h
theorem Vef {F:Nat→Prop} {w:World} {v u:Value} {x:Wd} (h:RWd F w v u x):
  Calls Tryz.prog 20 #[.agg #[v,u]] w fun e w'=>e= .returned (.int .i64 (Vd8 x))∧Ext w w':=by
 have HCR:=hH (fun(W:World) (hx:Ext w W)=>Vfm (h.2.ext gNo hx));have HCL:=hH (fun(W:World) (hx:Ext w W)=>h.1.ext gCl hx);obtain⟨a0,n0,c0,rfl⟩:=h.1.slice;obtain⟨a9,n9,c9,rfl⟩:=h.2.slice;obtain rfl:n0=x.clients.length:=h.1.len.1;obtain rfl:n9=x.log.length:=h.2.len.1;clear h;cases hb:inB (x.clients.length:Int) 1 5 with
 |false=>
  have HE:=hH (Ve8 hb);have hp:=len_parts.2 hb;by_cases h1:(x.clients.length:Int)<1
  ·have t1:decide ((x.clients.length:Int)<1)=true:=decide_eq_true h1;clear hb hp h1;go_enter Tryz.func20,Tryz.ntmps20;go_wp2_with fail
   go_ret;exact rt2 HE.o.symm Qac
  ·have t1:decide ((x.clients.length:Int)<1)=false:=decide_eq_false h1;have t2:decide ((5:Int)<(x.clients.length:Int))=true:=decide_eq_true (hp.resolve_left h1);clear hb hp h1;go_enter Tryz.func20,Tryz.ntmps20;go_wp2_with fail
   go_ret;exact rt2 HE.o.symm Qac
 |true=>
  have HB:=hH hb;obtain⟨h1,h2⟩:=len_parts.1 hb;have t1:decide ((x.clients.length:Int)<1)=false:=decide_eq_false h1;have t2:decide ((5:Int)<(x.clients.length:Int))=false:=decide_eq_false h2;have hl5:x.clients.length≤5:=oM;clear hb h1 h2;go_enter Tryz.func20,Tryz.ntmps20;go_wp2_with fail
  refine Qad (fun W1 eW1=> ?_);obtain⟨p0,p1⟩:=rR2 eW1 w.heap.size (.slice a0 x.clients.length c0) (.slice a9 x.log.length c9);have hp:w.heap.size<W1.heap.size:=World.block_lt_of_cell? _ _ p0;have HX1:=hH (xE w eW1);clear eW1 t1 t2;go_loopw [19] (fun iv wr=>∃k:Nat,k≤x.clients.length∧iv= .int .i64 k∧Hid (Vfz x.log.length k (x.clients.drop k)=Vfz x.log.length 0 x.clients)∧Hid (Ext W1 wr)) (fun iv _=>x.clients.length-(intOf iv).toNat)
  case atStart=>exact⟨0,Nat.zero_le _,rfl,hH rfl,hH (ext_refl _)⟩
  case round=>
   obtain⟨k,hk,rfl,HF,HXR0⟩:=hrel;have HXR:=hH (ext_trans HX1.o HXR0.o);have r0:=(HXR0.o.cells _ _ hp).trans p0;have r1:=(HXR0.o.cells _ _ hp).trans p1;have hpr:=Nat.lt_of_lt_of_le hp HXR0.o.size;clear p0 p1;by_cases hlt:k<x.clients.length
   ·obtain⟨b,o,c,a1,n1,c1,a2,n2,c2,a3,n3,c3,a4,n4,c4,a5,n5,c5,ea,hbz,ek,ic,hd,q0,q1,q2,q3,q4,q5,q6,q7⟩:=Vec (HCL.o wr HXR.o) hlt;subst ea;have HCD:=hH (fun(W:World) (hx:Ext wr W)=>Qfk (gDk.ext hd hx));have HST:=hH (Vgm (n:=x.log.length) ek);have HED:=hH (fun(h:¬Qaq c.desk=0)=>(Vgk h:Ve6 x.log.length k c=_));have HES:=hH (fun(h:Qaq c.desk=0) (g:¬c.desk.site=(k:Int))=>(Vgl h g:Ve6 x.log.length k c=4));have HEC:=hH (fun(h:Qaq c.desk=0) (g:c.desk.site=(k:Int)) (i:inB c.cursor 0 x.log.length=false)=>(Vhn h g i:Ve6 x.log.length k c=3));have HEO:=hH (fun(h:Qaq c.desk=0) (g:c.desk.site=(k:Int)) (i:inB c.cursor 0 x.log.length=true)=>(Vii h g i:Ve6 x.log.length k c=0));have HFE:=hH (fun(e:Int) (he:¬e=0) (h:Ve6 x.log.length k c=e)=>(Ve7 HB.o (e:=e) (by rw[←HF.o,HST.o,h,if_pos he]) he:Vd8 x=e));obtain⟨kd,hkd⟩:∃y:Int,Qaq c.desk=y:=⟨_,rfl⟩;rw[hkd] at HCD HED HES HEC HEO;clear ek hd ic hkd;by_cases h1:kd=0
    ·have t1:(kd !=0)=false:=by simp[h1]
     by_cases h2:c.desk.site=(k:Int)
     ·have t2:(c.desk.site !=(k:Int))=false:=by simp[h2]
      cases h3:inB c.cursor 0 x.log.length with
      |false=>
       have HE:=hH (HFE.o 3 dC (HEC.o h1 h2 h3));have h4:=cur_parts.2 h3;clear h1 h2 h3;by_cases h5:c.cursor<0
       ·have t3:decide (c.cursor<0)=true:=decide_eq_true h5;clear h4 h5;exact Zbj
       ·have t3:decide (c.cursor<0)=false:=decide_eq_false h5;have t4:decide ((x.log.length:Int)<c.cursor)=true:=decide_eq_true (h4.resolve_left h5);clear h4 h5;exact Zbj
      |true=>
       have HN:=hH (show Vfz x.log.length (k+1) (x.clients.drop (k+1))=Vfz x.log.length 0 x.clients by rw[←HF.o,HST.o,HEO.o h1 h2 h3,if_neg sI]);obtain⟨h4,h5⟩:=cur_parts.1 h3;clear h1 h2 h3;have t3:decide (c.cursor<0)=false:=decide_eq_false h4;have t4:decide ((x.log.length:Int)<c.cursor)=false:=decide_eq_false h5;clear h4 h5;go_wp2_with (first|(go_at_call 55;go_must ((with_reducible refine(HCD.o _ Qac).mono ?_);rintro e w2 ⟨rfl,hx2⟩;obtain⟨q0,q1,q2,q3,q4,q5,q6,q7⟩:=cC8 hx2 wr.heap.size (.int .i64 c.desk.site) (.slice a1 n1 c1) (.slice a2 n2 c2) (.slice a3 n3 c3) (.slice a4 n4 c4) (.int .i64 c.desk.clock) (.slice a5 n5 c5) (.int .i64 c.cursor);obtain⟨r0,r1⟩:=cC2 hx2 w.heap.size (.slice (some ⟨b,o,none⟩) x.clients.length c0) (.slice a9 x.log.length c9);have hz2:=hx2.size;(try simp at hz2);have hb2:=zL hx2 wr.heap.size;have hw2:=zL hx2 w.heap.size;have HX2:=xY wr hx2;clear hx2)))
       go_roundw
       case rel=>exact⟨k+1,hlt,by go_num,HN,hH (ext_trans HXR0.o (ext_trans HX2.o Qac))⟩
       case measure=>simp[intOf];omega
     ·have t2:(c.desk.site !=(k:Int))=true:=by simpa using h2
      have HE:=hH (HFE.o 4 dC (HES.o h1 h2));clear h1 h2;exact Zbj
    ·have t1:(kd !=0)=true:=by simpa using h1
     have HE:=hH (HFE.o kd h1 (HED.o h1));clear h1;exact Zbj
   ·have HE:=hH (Ve9 HB.o (by rw[←HF.o];exact Vho oM));go_wp2_with (first|(go_at_call 70;go_must ((with_reducible refine(HCR.o _ (ext_trans HXR.o Qac)).mono ?_);rintro e w3 ⟨rfl,hx3⟩;have HX3:=xY wr hx3;clear hx3)))
    go_ret;exact rt2 HE.o.symm (ext_trans HXR.o (ext_trans HX3.o Qac))
theorem Vge {F G:Nat→Prop} {w:World} {v u v' u':Value} {x:Wd} (h:RWd F w v u x) (k:RWd G w v' u' x):
  Calls Tryz.prog 64 #[.agg #[v,u],.agg #[v',u']] w fun e w'=>e= .returned (.bool true)∧Ext w w':=by
 have HSN:=hH (fun(W:World) (hx:Ext w W)=>Qlk (h.2.ext gNo hx) (k.2.ext gNo hx));have HCL:=hH (fun(W:World) (hx:Ext w W)=>h.1.ext gCl hx);have HKL:=hH (fun(W:World) (hx:Ext w W)=>k.1.ext gCl hx);obtain⟨a0,n0,c0,rfl⟩:=h.1.slice;obtain⟨a9,n9,c9,rfl⟩:=h.2.slice;obtain⟨d0,l0,e0,rfl⟩:=k.1.slice;obtain⟨d9,l9,e9,rfl⟩:=k.2.slice;obtain rfl:n0=x.clients.length:=h.1.len.1;obtain rfl:n9=x.log.length:=h.2.len.1;obtain rfl:l0=x.clients.length:=k.1.len.1;obtain rfl:l9=x.log.length:=k.2.len.1;have hlm:x.clients.length≤9223372036854775807:=by have:=h.1.len.2;unfold maxLen at this;omega
 clear h k;go_enter Tryz.func64,Tryz.ntmps64;go_wp2_with (first|(go_at_call 60;go_must ((with_reducible refine(HSN.o _ Qac).mono ?_);rintro e w2 ⟨rfl,hx2⟩;obtain⟨cc0,cc1⟩:=cC2 hx2 (w.heap.size) (.slice a0 x.clients.length c0) (.slice a9 x.log.length c9);obtain⟨cc2,cc3⟩:=cC2 hx2 (w.heap.size+1) (.slice d0 x.clients.length e0) (.slice d9 x.log.length e9);have HX2:=xY w hx2;have hz2:=hx2.size;(try simp at hz2);obtain⟨hw2,hw3⟩:=zL2 hx2 w.heap.size;clear hx2)))
 refine Qad (fun W1 eW1=> ?_);have p0:=rL eW1 ⟨w.heap.size,0,none⟩ (.slice a0 x.clients.length c0);have p2:=rL eW1 ⟨w.heap.size+1,0,none⟩ (.slice d0 x.clients.length e0);have hp:w.heap.size<W1.heap.size:=World.block_lt_of_cell? _ _ p0;have hp2:w.heap.size+1<W1.heap.size:=World.block_lt_of_cell? _ _ p2;have HX1:=hH (show Ext w W1 by rw[eW1];exact ext_trans HX2.o Qac);clear eW1 HX2;go_loopw [5] (fun iv wr=>∃k:Nat,k≤x.clients.length∧iv= .int .i64 k∧Hid (Ext W1 wr)) (fun iv _=>x.clients.length-(intOf iv).toNat)
 case atStart=>exact⟨0,Nat.zero_le _,rfl,hH (ext_refl _)⟩
 case round=>
  obtain⟨k,hk,rfl,HXR0⟩:=hrel;have HXR:=hH (ext_trans HX1.o HXR0.o);have r0:=(HXR0.o.cells _ _ hp).trans p0;have r2:=(HXR0.o.cells _ _ hp2).trans p2;have hpr:=Nat.lt_of_lt_of_le hp HXR0.o.size;have hpr2:=Nat.lt_of_lt_of_le hp2 HXR0.o.size;clear p0 p2;by_cases hlt:k<x.clients.length
  ·obtain⟨b,o,c,a1,n1,c1,a2,n2,c2,a3,n3,c3,a4,n4,c4,a5,n5,c5,ea,hbz,ek,ic,hd,q0,q1,q2,q3,q4,q5,q6,q7⟩:=Vec (HCL.o wr HXR.o) hlt;subst ea;obtain⟨b',o',c',f1,m1,g1,f2,m2,g2,f3,m3,g3,f4,m4,g4,f5,m5,g5,ea,hbz',ek',ic',hd',s0,s1,s2,s3,s4,s5,s6,s7⟩:=Vec (HKL.o wr HXR.o) hlt;subst ea;obtain rfl:c'=c:=by rw[ek] at ek';exact(Option.some.inj ek').symm
   have HSD:=hH (fun(W:World) (hx:Ext wr W)=>Qur (gDk.ext hd hx) (gDk.ext hd' hx));generalize c'.desk.site=cs at *;generalize c'.desk.clock=ck at *;generalize c'.cursor=cc at *;have t1:(cc !=cc)=false:=sI;clear ek ek' ic ic' hd hd';go_upto_region 6 with fail
   refine Qaa fol kR (fun hlater=> ?_);repeat(go_big_quiet_step ((first
     |(go_at_call 33;(with_reducible exact Qah (HSD.o _ (Later.ext _)))))))
   refine wpQuiet_nil ?_;rintro w6 ⟨⟨w6x,hx6⟩,rfl⟩;clear hlater;go_wp2_with fail
   go_roundw
   case rel=>exact⟨k+1,hlt,by go_num,hH (ext_trans HXR0.o (ext_trans hx6 Qac))⟩
   case measure=>simp[intOf];omega
  ·go_wp2_with fail
   go_ret;exact⟨rfl,HXR.o⟩
theorem Zbk {p:Prop} (h:p:=by
 go_wp2_with (first|(go_at_call 28;go_must ((with_reducible refine(HCD.o _ Qac).mono ?_);rintro e w2 ⟨rfl,hx2⟩;have q0:=hx2.cl b (o+k * 8) (.int .i64 c.desk.site);have q1:=hx2.cl b (o+k * 8+1) (.slice a1 n1 c1);have q2:=hx2.cl b (o+k * 8+2) (.slice a2 n2 c2);have q3:=hx2.cl b (o+k * 8+3) (.slice a3 n3 c3);have q4:=hx2.cl b (o+k * 8+4) (.slice a4 n4 c4);have q5:=hx2.cl b (o+k * 8+5) (.int .i64 c.desk.clock);have q6:=hx2.cl b (o+k * 8+6) (.slice a5 n5 c5);have q7:=hx2.cl b (o+k * 8+7) (.int .i64 c.cursor);obtain⟨r0,r1⟩:=cC2 hx2 w.heap.size (.slice (some ⟨b,o,none⟩) x.clients.length c0) (.slice a9 x.log.length c9);have hz2:=hx2.size;(try simp at hz2);have hb2:=zL hx2 b;have hw2:=zL hx2 w.heap.size;have HX2:=xY wr hx2;clear hx2)))
 go_ret;exact rt2 HE.o.symm (ext_trans HXR.o (ext_trans HX2.o Qac))):p:=h
theorem Vfx {F:Nat→Prop} {w:World} {v u:Value} {x:Wd} (h:RWd F w v u x):
  Calls Tryz.prog 17 #[.agg #[v,u]] w fun e w'=>e= .returned (.int .i64 (Vd8 x))∧Ext w w':=by
 have HCR:=hH (fun(W:World) (hx:Ext w W)=>Vfw (h.2.ext gNo hx));have HCL:=hH (fun(W:World) (hx:Ext w W)=>h.1.ext gCl hx);obtain⟨a0,n0,c0,rfl⟩:=h.1.slice;obtain⟨a9,n9,c9,rfl⟩:=h.2.slice;obtain rfl:n0=x.clients.length:=h.1.len.1;obtain rfl:n9=x.log.length:=h.2.len.1;clear h;cases hb:inB (x.clients.length:Int) 1 5 with
 |false=>
  have HE:=hH (Ve8 hb);go_enter Tryz.func17,Tryz.ntmps17;go_wp2_with (first|(go_at_call 66;((with_reducible refine(Qas _ _ _ _).mono ?_);rintro e w' ⟨rfl,rfl⟩)))
  go_ret;exact rt2 HE.o.symm Qac
 |true=>
  have HB:=hH hb;have hl5:x.clients.length≤5:=by unfold inB at hb;simp at hb;omega
  go_enter Tryz.func17,Tryz.ntmps17;go_wp2_with (first|(go_at_call 66;((with_reducible refine(Qas _ _ _ _).mono ?_);rintro e w' ⟨rfl,rfl⟩)))
  refine Qad (fun W1 eW1=> ?_);obtain⟨p0,p1⟩:=rR2 eW1 w.heap.size (.slice a0 x.clients.length c0) (.slice a9 x.log.length c9);have hp:w.heap.size<W1.heap.size:=World.block_lt_of_cell? _ _ p0;have HX1:=hH (xE w eW1);clear eW1 hb;go_loopw [3] (fun iv wr=>∃k:Nat,k≤x.clients.length∧iv= .int .i64 k∧Hid (Vfz x.log.length k (x.clients.drop k)=Vfz x.log.length 0 x.clients)∧Hid (Ext W1 wr)) (fun iv _=>x.clients.length-(intOf iv).toNat)
  case atStart=>exact⟨0,Nat.zero_le _,rfl,hH rfl,hH (ext_refl _)⟩
  case round=>
   obtain⟨k,hk,rfl,HF,HXR0⟩:=hrel;have HXR:=hH (ext_trans HX1.o HXR0.o);have r0:=(HXR0.o.cells _ _ hp).trans p0;have r1:=(HXR0.o.cells _ _ hp).trans p1;have hpr:=Nat.lt_of_lt_of_le hp HXR0.o.size;clear p0 p1;by_cases hlt:k<x.clients.length
   ·obtain⟨b,o,c,a1,n1,c1,a2,n2,c2,a3,n3,c3,a4,n4,c4,a5,n5,c5,ea,hbz,ek,ic,hd,q0,q1,q2,q3,q4,q5,q6,q7⟩:=Vec (HCL.o wr HXR.o) hlt;subst ea;have HCD:=hH (fun(W:World) (hx:Ext wr W)=>Qke (gDk.ext hd hx));have HST:=hH (Vgm (n:=x.log.length) ek);have HED:=hH (fun(h:¬Qaq c.desk=0)=>(Vgk h:Ve6 x.log.length k c=_));have HES:=hH (fun(h:Qaq c.desk=0) (g:¬c.desk.site=(k:Int))=>(Vgl h g:Ve6 x.log.length k c=4));have HEC:=hH (fun(h:Qaq c.desk=0) (g:c.desk.site=(k:Int)) (i:inB c.cursor 0 x.log.length=false)=>(Vhn h g i:Ve6 x.log.length k c=3));have HEO:=hH (fun(h:Qaq c.desk=0) (g:c.desk.site=(k:Int)) (i:inB c.cursor 0 x.log.length=true)=>(Vii h g i:Ve6 x.log.length k c=0));have HFE:=hH (fun(e:Int) (he:¬e=0) (h:Ve6 x.log.length k c=e)=>(Ve7 HB.o (e:=e) (by rw[←HF.o,HST.o,h,if_pos he]) he:Vd8 x=e));obtain⟨kd,hkd⟩:∃y:Int,Qaq c.desk=y:=⟨_,rfl⟩;rw[hkd] at HCD HED HES HEC HEO;clear ek hd ic hkd;by_cases h1:kd=0
    ·have t1:(kd !=0)=false:=by simp[h1]
     by_cases h2:c.desk.site=(k:Int)
     ·have t2:(c.desk.site !=(k:Int))=false:=by simp[h2]
      cases h3:inB c.cursor 0 x.log.length with
      |false=>
       have HE:=hH (HFE.o 3 dC (HEC.o h1 h2 h3));have t3:=h3;clear h1 h2 h3;go_upto_region 11 with(first|(go_at_call 28;go_must ((with_reducible refine(HCD.o _ Qac).mono ?_);rintro e w2 ⟨rfl,hx2⟩;have q0:=hx2.cl b (o+k * 8) (.int .i64 c.desk.site);have q1:=hx2.cl b (o+k * 8+1) (.slice a1 n1 c1);have q2:=hx2.cl b (o+k * 8+2) (.slice a2 n2 c2);have q3:=hx2.cl b (o+k * 8+3) (.slice a3 n3 c3);have q4:=hx2.cl b (o+k * 8+4) (.slice a4 n4 c4);have q5:=hx2.cl b (o+k * 8+5) (.int .i64 c.desk.clock);have q6:=hx2.cl b (o+k * 8+6) (.slice a5 n5 c5);have q7:=hx2.cl b (o+k * 8+7) (.int .i64 c.cursor);obtain⟨r0,r1⟩:=cC2 hx2 w.heap.size (.slice (some ⟨b,o,none⟩) x.clients.length c0) (.slice a9 x.log.length c9);have hz2:=hx2.size;(try simp at hz2);have hb2:=zL hx2 b;have hw2:=zL hx2 w.heap.size;have HX2:=xY wr hx2;clear hx2)))
       refine Qad (fun W5 eW5=> ?_);obtain⟨s0,s1⟩:=rR2 eW5 w.heap.size (.slice (some ⟨b,o,none⟩) x.clients.length c0) (.slice a9 x.log.length c9);have s2:=rL eW5 ⟨b,o+k * 8+7,none⟩ (.int .i64 c.cursor);have zW5_0:=zE eW5 w.heap.size;have zW5_1:=zE eW5 b;have hw5:=xE w2 eW5;clear eW5;refine Qaa fol kR (fun hlater=> ?_);repeat(go_big_quiet_step ((first
         |(go_at_call 66;(with_reducible exact Qqs (Qas _ _ _ _))))))
       refine wpQuiet_nil ?_;rintro w6 ⟨⟨w6x,hx6⟩,rfl⟩;clear hlater;go_wp2_with fail
       go_ret;exact rt2 HE.o.symm (ext_trans HXR.o (ext_trans HX2.o (ext_trans hw5 (ext_trans hx6 Qac))))
      |true=>
       have HN:=hH (show Vfz x.log.length (k+1) (x.clients.drop (k+1))=Vfz x.log.length 0 x.clients by rw[←HF.o,HST.o,HEO.o h1 h2 h3,if_neg sI]);have t3:=h3;clear h1 h2 h3;go_upto_region 11 with(first|(go_at_call 28;go_must ((with_reducible refine(HCD.o _ Qac).mono ?_);rintro e w2 ⟨rfl,hx2⟩;have q0:=hx2.cl b (o+k * 8) (.int .i64 c.desk.site);have q1:=hx2.cl b (o+k * 8+1) (.slice a1 n1 c1);have q2:=hx2.cl b (o+k * 8+2) (.slice a2 n2 c2);have q3:=hx2.cl b (o+k * 8+3) (.slice a3 n3 c3);have q4:=hx2.cl b (o+k * 8+4) (.slice a4 n4 c4);have q5:=hx2.cl b (o+k * 8+5) (.int .i64 c.desk.clock);have q6:=hx2.cl b (o+k * 8+6) (.slice a5 n5 c5);have q7:=hx2.cl b (o+k * 8+7) (.int .i64 c.cursor);obtain⟨r0,r1⟩:=cC2 hx2 w.heap.size (.slice (some ⟨b,o,none⟩) x.clients.length c0) (.slice a9 x.log.length c9);have hz2:=hx2.size;(try simp at hz2);have hb2:=zL hx2 b;have hw2:=zL hx2 w.heap.size;have HX2:=xY wr hx2;clear hx2)))
       refine Qad (fun W5 eW5=> ?_);obtain⟨s0,s1⟩:=rR2 eW5 w.heap.size (.slice (some ⟨b,o,none⟩) x.clients.length c0) (.slice a9 x.log.length c9);have s2:=rL eW5 ⟨b,o+k * 8+7,none⟩ (.int .i64 c.cursor);have zW5_0:=zE eW5 w.heap.size;have zW5_1:=zE eW5 b;have hw5:=xE w2 eW5;clear eW5;refine Qaa fol kR (fun hlater=> ?_);repeat(go_big_quiet_step ((first
         |(go_at_call 66;(with_reducible exact Qqs (Qas _ _ _ _))))))
       refine wpQuiet_nil ?_;rintro w6 ⟨⟨w6x,hx6⟩,rfl⟩;clear hlater;go_wp2_with fail
       go_roundw
       case rel=>exact⟨k+1,hlt,by go_num,HN,hH (ext_trans HXR0.o (ext_trans HX2.o (ext_trans hw5 (ext_trans hx6 Qac))))⟩
       case measure=>simp[intOf];omega
     ·have t2:(c.desk.site !=(k:Int))=true:=by simpa using h2
      have HE:=hH (HFE.o 4 dC (HES.o h1 h2));clear h1 h2;exact Zbk
    ·have t1:(kd !=0)=true:=by simpa using h1
     have HE:=hH (HFE.o kd h1 (HED.o h1));clear h1;exact Zbk
   ·have HE:=hH (Ve9 HB.o (by rw[←HF.o];exact Vho oM));go_wp2_with (first|(go_at_call 67;go_must ((with_reducible refine(HCR.o _ (ext_trans HXR.o Qac)).mono ?_);rintro e w3 ⟨rfl,hx3⟩;have HX3:=xY wr hx3;clear hx3)))
    go_ret;exact rt2 HE.o.symm (ext_trans HXR.o (ext_trans HX3.o Qac))
theorem Vje {d:Dk} {t:Tx} (h:Vcf d t=0):RightK (Vap d t):=by
 obtain⟨h1,h2,h3⟩:=Qu3 h;have h':Qd2 d (wwE d t) (wwV d t)=0:=h;unfold Vap Qhg;rw[if_pos h'];exact Qi9 (Q7u h1 h2) h3
structure Hap where
 kind:Int
 who:Int
 at_:Int
 many:Int
 text:ByteArray
 lost:Bool
def Vf8 (h:Hap):Bool:=
 (((h.at_ !=0 && decide (2<h.kind)) ||(h.many !=0 && h.kind !=2 && h.kind !=4)) ||(h.text !=⟨#[]⟩ && h.kind !=1 && h.kind !=5)) ||(h.lost && h.kind !=3 && h.kind !=4)
def Vfa (n:Nat) (h:Hap):Int:=
 if inB h.kind 1 5=false then 7 else if inB h.who 0 ((n:Int)-1)=false then 5 else if Vf8 h=true then 1 else if inB h.at_ 0 300=false∨inB h.many 0 300=false then 3 else if 300<h.text.size then 2 else 0
theorem Vg6 {n:Nat} {h:Hap} (e:Vfa n h=0):(1≤h.kind∧h.kind≤5)∧(0≤h.who∧h.who<n)∧Vf8 h=false∧(0≤h.at_∧h.at_≤300)∧(0≤h.many∧h.many≤300)∧h.text.size≤300:=by
 have hb:∀{n a b:Int},inB n a b=true→a≤n∧n≤b:=by intro n a b;unfold inB;simp
 unfold Vfa at e;cases h1:inB h.kind 1 5 with
 |false=>rw[h1,if_pos rfl] at e;cases e
 |true=>
  cases h2:inB h.who 0 ((n:Int)-1) with
  |false=>rw[h1,h2,if_neg sI,if_pos rfl] at e;cases e
  |true=>
   cases h3:Vf8 h with
   |true=>rw[h1,h2,h3,if_neg sI,if_neg sI,if_pos rfl] at e;cases e
   |false=>
    by_cases h4:inB h.at_ 0 300=false∨inB h.many 0 300=false
    ·rw[h1,h2,h3,if_neg sI,if_neg sI,if_neg sI,if_pos h4] at e;cases e
    ·by_cases h5:300<h.text.size
     ·rw[h1,h2,h3,if_neg sI,if_neg sI,if_neg sI,if_neg h4,if_pos h5] at e;cases e
     ·rw[not_or] at h4;have h6:=hb h1;have h7:=hb h2;have h8:=hb ((Bool.not_eq_false _).mp h4.1);have h9:=hb ((Bool.not_eq_false _).mp h4.2);exact⟨h6,⟨h7.1,oM⟩,rfl,h8,h9,oM⟩
structure RightX (x:Wd):Prop where
 few:1≤x.clients.length∧x.clients.length≤5
 desk:∀(i:Nat) (c:Cl),x.clients[i]?=some c→RightK c.desk∧c.desk.site=(i:Int)∧0≤c.cursor∧c.cursor≤x.log.length
 log:Vd7 x.log=0
theorem cliE_zero {n i:Nat} {c:Cl}:Ve6 n i c=0↔RightK c.desk∧c.desk.site=(i:Int)∧0≤c.cursor∧c.cursor≤n:=by
 have hb:∀{n a b:Int},inB n a b=true↔a≤n∧n≤b:=by intro n a b;unfold inB;simp
 unfold Ve6;by_cases h1:Qaq c.desk=0
 ·rw[if_neg (by simpa using h1)];by_cases h2:c.desk.site=(i:Int)
  ·rw[if_neg (by simpa using h2)];cases h3:inB c.cursor 0 n with
   |false=>
    rw[if_pos rfl];exact⟨fun e=>(by cases e),fun e=>(by rw[hb.2 e.2.2] at h3;cases h3)⟩
   |true=>
    rw[if_neg sI];exact⟨fun _=>⟨checkK_ok.1 h1,h2,hb.1 h3⟩,fun _=>rfl⟩
  ·rw[if_pos h2];exact⟨fun e=>(by cases e),fun e=>absurd e.2.1 h2⟩
 ·rw[if_pos h1];exact⟨fun e=>absurd e h1,fun e=>absurd (checkK_ok.2 e.1) h1⟩
theorem Vgn {n:Nat}:∀{l:List Cl} {k:Nat},Vfz n k l=0↔∀(i:Nat) (c:Cl),l[i]?=some c→Ve6 n (k+i) c=0
 | [],k=>⟨fun _ i c h=>(by simp at h),fun _=>rfl⟩
 |x::r,k=>by
  show(if Ve6 n k x≠0 then Ve6 n k x else Vfz n (k+1) r)=0↔_
  by_cases h:Ve6 n k x=0
  ·rw[if_neg (by simpa using h),Vgn (l:=r) (k:=k+1)];constructor
   ·intro g i c hc;cases i with
    |zero=>
     obtain rfl:x=c:=by simpa using hc
     exact h
    |succ i=>
     have:=g i c (by simpa using hc)
     rwa [show k+(i+1)=k+1+i by omega]
   ·intro g i c hc;have:=g (i+1) c (by simpa using hc)
    rwa [show k+(i+1)=k+1+i by omega] at this
  ·rw[if_pos h];exact⟨fun e=>absurd e h,fun g=>absurd (g 0 x sI) h⟩
theorem checkW_ok {x:Wd}:Vd8 x=0↔RightX x:=by
 have hb:∀{n a b:Int},inB n a b=true↔a≤n∧n≤b:=by intro n a b;unfold inB;simp
 have hc:Vfz x.log.length 0 x.clients=0↔∀(i:Nat) (c:Cl),x.clients[i]?=some c→RightK c.desk∧c.desk.site=(i:Int)∧0≤c.cursor∧c.cursor≤x.log.length:=by
  rw[Vgn];exact⟨fun h i c e=>by have:=h i c e;rw[Nat.zero_add] at this;exact cliE_zero.1 this,fun h i c e=>by rw[Nat.zero_add];exact cliE_zero.2 (h i c e)⟩
 cases h1:inB x.clients.length 1 5 with
 |false=>
  rw[Ve8 h1];exact⟨fun e=>(by cases e),fun e=>(by rw[hb.2 ⟨by have:=e.few;omega,by have:=e.few;omega⟩] at h1;cases h1)⟩
 |true=>
  have h2:=hb.1 h1;by_cases h3:Vfz x.log.length 0 x.clients=0
  ·rw[Ve9 h1 h3];exact⟨fun e=>⟨⟨oM,oM⟩,hc.1 h3,e⟩,fun e=>e.log⟩
  ·rw[Ve7 h1 rfl h3];exact⟨fun e=>absurd e h3,fun e=>absurd (hc.2 e.desk) h3⟩
def Veg (h:Hap) (n:Nat):Int:=if h.at_<(n:Int) then h.at_ else n
def Vh1 (h:Hap) (n:Nat):Int:=if h.many<(n:Int)-Veg h n then h.many else(n:Int)-Veg h n
def Vfo (h:Hap) (d:Dk):Int:=
 if h.kind=1 then Qjg d (Veg h d.state.1.length) h.text.data.toList else if h.kind=2 then Q5n d (Veg h d.state.1.length) (Vh1 h d.state.1.length) else Vcf d h.text.data.toList
def Vfg (h:Hap) (d:Dk):Dk:=
 if h.kind=1 then Qj8 d (Veg h d.state.1.length) h.text.data.toList else if h.kind=2 then Q5o d (Veg h d.state.1.length) (Vh1 h d.state.1.length) else Vap d h.text.data.toList
def Vgq (h:Hap) (x:Wd) (i:Nat) (c:Cl):Wd:=if Vfo h c.desk=0 then {x with clients:=x.clients.set i {c with desk:=Vfg h c.desk}} else x
def Vkb (lost:Bool) (c:Cl):Cl:=if lost=true then c else {c with desk:={c.desk with out:=c.desk.out.tail}}
def Vej (x:Wd) (c:Cl):Bool:=match c.desk.out with| []=>false|n::_=>decide (Vfd x.log n=0)
def Veh (lost:Bool) (x:Wd) (i:Nat) (c:Cl):Wd:=match c.desk.out with| []=>x|n::_=>if Vfd x.log n=0 then⟨x.clients.set i (Vkb lost c),Vg3 x.log n⟩ else x
def Vem (x:Wd) (c:Cl) (m:Int):List No:=(x.log.drop c.cursor.toNat).take m.toNat
def Ved (m:Int) (x:Wd) (i:Nat) (c:Cl):Wd:=match Vd9 c.desk (Vem x c m) with|none=>x|some d=> {x with clients:=x.clients.set i ⟨d,c.cursor+((Vem x c m).length:Int)⟩}
def doC (h:Hap) (x:Wd) (i:Nat) (c:Cl):Wd:=if h.kind=3 then Veh h.lost x i c else if h.kind=4 then(if h.lost=true then x else Ved h.many x i c) else Vgq h x i c
def doW (x:Wd) (h:Hap):Wd:=match x.clients[h.who.toNat]? with|none=>x|some c=>doC h x h.who.toNat c
def Vhx:Wd→List Hap→Int
 |_,[]=>0
 |x,h::r=>if Vfa x.clients.length h≠0 then Vfa x.clients.length h else Vhx (doW x h) r
def Vjf:Wd→List Hap→Wd
 |x,[]=>x
 |x,h::r=>Vjf (doW x h) r
def noW:Wd:=⟨[],[]⟩
def Vgc (x:Wd) (l:List Hap):Int:=if Vd8 x≠0 then Vd8 x else if 80<l.length then 2 else Vhx x l
def Vhy (x:Wd) (l:List Hap):Wd:=if Vgc x l=0 then Vjf x l else noW
theorem Vle {l:List Cl} {i j:Nat} {c e:Cl} (h:(l.set i c)[j]?=some e):(j=i∧e=c)∨(j≠i∧l[j]?=some e):=by
 by_cases hj:j=i
 ·subst hj;have hl:j<l.length:=by have:=(List.getElem?_eq_some_iff.1 h).1;simpa using this
  rw[List.getElem?_set_self hl] at h;exact .inl ⟨rfl,(Option.some.inj h).symm⟩
 ·rw[List.getElem?_set_ne (fun e=>hj e.symm)] at h;exact .inr ⟨hj,h⟩
theorem Vif {l:List No} {n:No} (h:Vd7 l=0) (hn:Qa0 n=0) (e:Vfd l n=0):Vd7 (Vg3 l n)=0:=by
 have e':Vhc l n=0:=by rw[Vgu h hn,e]
 have h1:=(Vfc e').2.2.1
 rwa [(Vj3 h hn e).2] at h1
theorem Vjj (l:List No) (n:No):l.length≤(Vg3 l n).length:=by
 unfold Vg3;split
 ·rw[List.length_append];omega
 ·exact Nat.le_refl _
theorem Ve5 {x:Wd} (h:RightX x) {i:Nat} {c:Cl} {L:List No} (hd:RightK c.desk) (hs:c.desk.site=(i:Int)) (h0:0≤c.cursor) (h1:c.cursor≤L.length) (hl:Vd7 L=0) (hL:x.log.length≤L.length):RightX ⟨x.clients.set i c,L⟩:=by
 refine⟨by rw[show(⟨x.clients.set i c,L⟩:Wd).clients.length=x.clients.length from List.length_set ..];exact h.few,fun j e he=> ?_,hl⟩;rcases Vle (show(x.clients.set i c)[j]?=some e from he) with⟨rfl,rfl⟩|⟨hj,hq⟩
 ·exact⟨hd,hs,h0,h1⟩
 ·obtain⟨a,b,p,q⟩:=h.desk j e hq;exact⟨a,b,p,Int.le_trans q (by have:x.log.length≤(⟨x.clients.set i c,L⟩:Wd).log.length:=hL;omega)⟩
theorem Vi0 {d:Dk} (h:RightK d):RightK {d with out:=d.out.tail}:=by
 obtain⟨h1,h2,h3,h4,h5,h6,h7,h8,h9,ha,hb0,hc⟩:=h;have hb:Qdv {d with out:=d.out.tail} <d.clock:=by
  obtain⟨q1,q2,q3,q4,q5⟩:=lastK_le.1 (show Qdv d≤d.clock-1 by omega);have:=lastK_le.2 (show 0≤d.clock-1∧(∀a∈({d with out:=d.out.tail}:Dk).state.1,Qgu d.site a.1≤d.clock-1)∧(∀m∈({d with out:=d.out.tail}:Dk).state.2,Qgu d.site m≤d.clock-1)∧(∀n∈({d with out:=d.out.tail}:Dk).waits,Qhz d.site n.deeds≤d.clock-1)∧∀n∈({d with out:=d.out.tail}:Dk).out,Qhz d.site n.deeds≤d.clock-1 from⟨q1,q2,q3,q4,fun n hn=>q5 n (List.mem_of_mem_tail hn)⟩);omega
 cases ho:d.out with
 |nil=>exact⟨h1,h2,h3,h4,sI,h6,fun n hn=>by simp at hn,h8,h9,fun i n hn=>by simp at hn,by rw[ho] at hb;exact hb,hc⟩
 |cons n r=>
  refine⟨h1,h2,h3,h4,?_,h6,fun m hm=>h7 m (by rw[ho];exact List.mem_cons_of_mem _ hm),h8,h9,fun i m hm=> ?_,by rw[ho] at hb;exact hb,hc⟩
  ·rw[ho] at h5;simp at h5 ⊢;omega
  ·obtain⟨g1,g2⟩:=ha (i+1) m (by rw[ho];simpa using hm);refine⟨g1,?_⟩;rw[g2,ho];simp;omega
theorem Vg2:∀(l:List Edt) (x:Wr),(Qjj x l).1.site=x.1.site
 | [],x=>rfl
 |e::r,x=>(Vg2 r (Qnv x e)).trans (by unfold Qnv;split<;>rfl)
theorem Vix (x:Wr):(Qnb x).site=x.1.site:=by unfold Qnb;split<;>rfl
theorem Vkd {d:Dk} {t:Tx} (h:Vcf d t=0):(Vap d t).site=d.site:=by
 unfold Vap Qhg;rw[if_pos (show Qd2 d (wwE d t) (wwV d t)=0 from h),Vix];unfold wwV;exact Vg2 _ _
theorem Vik {h:Hap} {d:Dk} (e:Vfo h d=0) (hk:h.kind=1∨h.kind=2∨h.kind=5):RightK d∧RightK (Vfg h d)∧(Vfg h d).site=d.site:=by
 unfold Vfo at e;unfold Vfg;by_cases h1:h.kind=1
 ·rw[if_pos h1] at e ⊢;obtain⟨a,_,s,_,c,d⟩:=Q7m e;exact⟨a,Q0g e,by rw[c];rfl⟩
 ·rw[if_neg h1] at e ⊢;by_cases h2:h.kind=2
  ·rw[if_pos h2] at e ⊢;obtain⟨a,_,b⟩:=Vkp e;refine⟨a,Vf0 e,?_⟩;rcases b with⟨_,b⟩|⟨_,s,_,b,_⟩
   ·rw[b]
   ·rw[b];rfl
  ·rw[if_neg h2] at e ⊢;refine⟨(Qu3 e).1,Vje e,?_⟩;exact Vkd e
theorem Vff {d:Dk} (hd:RightK d):∀{l:List No} {e:Dk},Vd9 d l=some e→RightK e∧e.site=d.site∧e.out=d.out
 | [],e,h=>by obtain rfl:d=e:=Option.some.inj h;exact⟨hd,rfl,rfl⟩
 |n::r,e,h=>by
  have h':(r.foldl (fun(o:Option Dk) n=>o.bind fun e=>if Q3r e n=0 then some (Van e n) else none) (if Q3r d n=0 then some (Van d n) else none))=some e:=h;by_cases h0:Q3r d n=0
  ·rw[if_pos h0] at h';obtain⟨g1,g2,g3,_⟩:=Vjr h0;obtain⟨k1,k2,k3⟩:=Vff g1 (l:=r) (e:=e) h';exact⟨k1,k2.trans g2,k3.trans g3⟩
  ·rw[if_neg h0,Vey] at h';cases h'
theorem Vi3 {x:Wd} {c:Cl} {m:Int} (h0:0≤c.cursor) (h1:c.cursor≤x.log.length):c.cursor+((Vem x c m).length:Int)≤x.log.length:=by
 have:(Vem x c m).length≤x.log.length-c.cursor.toNat:=by unfold Vem;rw[List.length_take,List.length_drop];omega
 omega
theorem Veo {h:Hap} {x:Wd} {i:Nat} {c:Cl} (hx:RightX x) (hc:x.clients[i]?=some c) (hk:1≤h.kind∧h.kind≤5):RightX (doC h x i c):=by
 obtain⟨a,b,p,q⟩:=hx.desk i c hc;unfold doC;by_cases h3:h.kind=3
 ·rw[if_pos h3];unfold Veh;split
  ·exact hx
  ·rename_i n r ho
   split
   ·rename_i e
    have hn:Qa0 n=0:=a.no n (by rw[ho];exact List.mem_cons_self ..);have hl:=Vjj x.log n;have hL:=Vif hx.log hn e;unfold Vkb;split
    ·exact Ve5 hx a b p oM hL hl
    ·exact Ve5 hx (Vi0 a) b p (by show c.cursor≤_;omega) hL hl
   ·exact hx
 ·rw[if_neg h3];by_cases h4:h.kind=4
  ·rw[if_pos h4];split
   ·exact hx
   ·unfold Ved;split
    ·exact hx
    ·rename_i d hd
     obtain⟨k1,k2,_⟩:=Vff a hd;exact Ve5 hx k1 (k2.trans b) (by show 0≤c.cursor+_;omega) (Vi3 p q) hx.log (Nat.le_refl _)
  ·rw[if_neg h4];unfold Vgq;split
   ·rename_i e
    obtain⟨_,k1,k2⟩:=Vik e oM;exact Ve5 hx k1 (k2.trans b) p q hx.log (Nat.le_refl _)
   ·exact hx
theorem Vkm {x:Wd} {h:Hap} (e:Vfa x.clients.length h=0):∃c,x.clients[h.who.toNat]?=some c:=by
 have:=(Vg6 e).2.1;exact⟨_,List.getElem?_eq_getElem oM⟩
theorem Vkh {x:Wd} {h:Hap} {c:Cl} (hc:x.clients[h.who.toNat]?=some c):doW x h=doC h x h.who.toNat c:=by unfold doW;rw[hc]
theorem Vgo {x:Wd} {h:Hap} (hx:RightX x) (e:Vfa x.clients.length h=0):RightX (doW x h):=by
 obtain⟨c,hc⟩:=Vkm e;rw[Vkh hc];exact Veo hx hc (Vg6 e).1
theorem Vf7 (h:Hap) (x:Wd) (i:Nat) (c:Cl):(doC h x i c).clients.length=x.clients.length:=by
 unfold doC Veh Ved Vgq;repeat' split
 all_goals first|rfl|exact List.length_set ..
theorem Vhv {x:Wd} {h:Hap} (hx:Vd8 x=0):Vgc x [h]=Vfa x.clients.length h:=by
 unfold Vgc;rw[if_neg (by simpa using hx),if_neg sI]
 show(if Vfa x.clients.length h≠0 then Vfa x.clients.length h else 0)=_
 split
 ·rfl
 ·rename_i e
  exact(by simpa using e:Vfa x.clients.length h=0).symm
theorem Vj7 {x:Wd} {h:Hap} (hx:Vd8 x=0) (e:Vfa x.clients.length h=0):Vhy x [h]=doW x h:=by
 unfold Vhy;rw[if_pos (by rw[Vhv hx,e])];rfl
theorem Veu {x:Wd} {l:List Hap} (h:¬Vgc x l=0):Vhy x l=noW:=by unfold Vhy;rw[if_neg h]
def Ven:Nat→Wd→Nat→Wd
 |0,x,_=>x
 |k+1,x,i=>match x.clients[i]? with|none=>x|some c=>if Vej x c=true then Ven k (Veh false x i c) i else x
def Veq (x:Wd) (i:Nat):Wd:=match x.clients[i]? with|none=>x|some c=>Ven c.desk.out.length x i
def Ve1 (x:Wd) (i:Nat):Wd:=match x.clients[i]? with|none=>x|some c=>Ved 300 x i c
def Vek:Nat→Wd→Wd
 |0,x=>x
 |k+1,x=>Veq (Vek k x) k
def Vex:Nat→Wd→Wd
 |0,x=>x
 |k+1,x=>Ve1 (Vex k x) k
def Vgg (x:Wd):Wd:=Vex x.clients.length (Vek x.clients.length x)
def Ver (x:Wd):Wd:=if Vd8 x=0 then Vgg x else noW
theorem Vfu (x:Wd) (i:Nat) (c:Cl) (lost:Bool):Veh lost x i c=doC ⟨3,0,0,0,⟨#[]⟩,lost⟩ x i c:=rfl
theorem Vfr (x:Wd) (i:Nat) (c:Cl) (m:Int):Ved m x i c=doC ⟨4,0,0,m,⟨#[]⟩,false⟩ x i c:=rfl
theorem Vfv:∀(k:Nat) {x:Wd} {i:Nat},RightX x→RightX (Ven k x i)∧(Ven k x i).clients.length=x.clients.length
 |0,x,i,hx=>⟨hx,rfl⟩
 |k+1,x,i,hx=>by
  unfold Ven;split
  ·exact⟨hx,rfl⟩
  ·rename_i c hc
   split
   ·rw[Vfu];obtain⟨h1,h2⟩:=Vfv k (i:=i) (Veo (h:=⟨3,0,0,0,⟨#[]⟩,false⟩) hx hc ⟨dC,dC⟩);exact⟨h1,h2.trans (Vf7 ..)⟩
   ·exact⟨hx,rfl⟩
theorem Ve3:∀(k:Nat) {x:Wd},RightX x→RightX (Vek k x)∧(Vek k x).clients.length=x.clients.length
 |0,x,hx=>⟨hx,rfl⟩
 |k+1,x,hx=>by
  obtain⟨h1,h2⟩:=Ve3 k hx
  show RightX (Veq (Vek k x) k)∧(Veq (Vek k x) k).clients.length=_
  unfold Veq;split
  ·exact⟨h1,h2⟩
  ·obtain⟨g1,g2⟩:=Vfv _ (i:=k) h1;exact⟨g1,g2.trans h2⟩
theorem Ve2:∀(k:Nat) {x:Wd},RightX x→RightX (Vex k x)∧(Vex k x).clients.length=x.clients.length
 |0,x,hx=>⟨hx,rfl⟩
 |k+1,x,hx=>by
  obtain⟨h1,h2⟩:=Ve2 k hx
  show RightX (Ve1 (Vex k x) k)∧(Ve1 (Vex k x) k).clients.length=_
  unfold Ve1;split
  ·exact⟨h1,h2⟩
  ·rename_i c hc
   rw[Vfr];exact⟨Veo h1 hc ⟨dC,dC⟩,(Vf7 ..).trans h2⟩
theorem Vg0 {x:Wd} (h:RightX x):RightX (Vgg x)∧(Vgg x).clients.length=x.clients.length:=by
 obtain⟨h1,h2⟩:=Ve3 x.clients.length h;obtain⟨g1,g2⟩:=Ve2 x.clients.length h1;exact⟨g1,g2.trans h2⟩
theorem Vir:(Tryz.prog.info? 73).map (fun i=>(i.zero,i.size,i.bytes))=some (some (.agg #[.int .i64 0,.slice none 0 0,.slice none 0 0,.slice none 0 0,.slice none 0 0,.int .i64 0,.slice none 0 0,.int .i64 0]),8,144):=kR
theorem Vkj:∀F w cs (y:Cl),RCl F w cs y→∀u∈cs,u.oneCell'=true:=by
 rintro F w cs y ⟨va,vg,vs,vw,vo,rfl,hd,_⟩ x hx;obtain⟨h1,h2,h3,h4,h5⟩:=Vea hd;obtain⟨a1,n1,c1,rfl⟩:=h1.slice;obtain⟨a2,n2,c2,rfl⟩:=h2.slice;obtain⟨a3,n3,c3,rfl⟩:=h3.slice;obtain⟨a4,n4,c4,rfl⟩:=h4.slice;obtain⟨a5,n5,c5,rfl⟩:=h5.slice;simp at hx;rcases hx with rfl|rfl|rfl|rfl|rfl|rfl|rfl|rfl<;>rfl
theorem Vkg {a:Nat} (h:a≤10):a+1≤maxLen:=Nat.le_trans (by omega:a+1≤1001) (by unfold maxLen;decide)
theorem Vkf {a:Nat} (h:a≤10):(a+1) * 144≤140737488355328:=oM
theorem Vla {F:Nat→Prop} {w:World} {s c k:Int} {va vg vs vw vo:Value} {d:Dk} (h:RDk F w [.int .i64 s,va,vg,vs,vw,.int .i64 c,vo] d) (hk:I64 k):RCl F w [.int .i64 s,va,vg,vs,vw,.int .i64 c,vo,.int .i64 k] ⟨d,k⟩:=by
 have h':=h;obtain⟨_,_,_,_,_,he,_⟩:=h;injection he with e0 he
 injection he with _ he
 injection he with _ he
 injection he with _ he
 injection he with _ he
 injection he with e5 _
 injection e0 with _ e0
 injection e5 with _ e5
 subst e0 e5;exact⟨_,_,_,_,_,rfl,h',hk⟩
theorem Vhu {w:World} {b:Nat} {x0 x1 x2 x3 x4 x5 x6 x7:Value} (h0:w.cell? ⟨b,0,none⟩=some x0) (h1:w.cell? ⟨b,1,none⟩=some x1) (h2:w.cell? ⟨b,2,none⟩=some x2) (h3:w.cell? ⟨b,3,none⟩=some x3) (h4:w.cell? ⟨b,4,none⟩=some x4) (h5:w.cell? ⟨b,5,none⟩=some x5) (h6:w.cell? ⟨b,6,none⟩=some x6) (h7:w.cell? ⟨b,7,none⟩=some x7):w.rangeAt b 0 [x0,x1,x2,x3,x4,x5,x6,x7]:=by
 intro j v hv
 match j,hv with
 |0,hv=>injection hv with hv;subst hv;exact h0
 |1,hv=>injection hv with hv;subst hv;exact h1
 |2,hv=>injection hv with hv;subst hv;exact h2
 |3,hv=>injection hv with hv;subst hv;exact h3
 |4,hv=>injection hv with hv;subst hv;exact h4
 |5,hv=>injection hv with hv;subst hv;exact h5
 |6,hv=>injection hv with hv;subst hv;exact h6
 |7,hv=>injection hv with hv;subst hv;exact h7
 |j+8,hv=>simp at hv
def Vit (n:Nat):List Cl:=(List.range n).map fun(i:Nat)=>⟨Vam (i:Int),0⟩
theorem Vhs (n:Nat):(Vit n).length=n:=by unfold Vit;rw[List.length_map,List.length_range]
theorem Viu (n:Nat):Vit (n+1)=Vit n++[⟨Vam (n:Int),0⟩]:=by unfold Vit;rw[List.range_succ,List.map_append];rfl
def Vg9 (n:Int):Int:=if inB n 1 5=false then 3 else 0
def Vh2 (n:Int):Wd:=if Vg9 n=0 then⟨Vit n.toNat,[]⟩ else noW
def Vjg (x:Wd) (er:Int) (w:World) (e:Ending) (w':World):Prop:=
 ∃a n c a' n' c',e= .returned (.tuple #[.agg #[.slice a n c,.slice a' n' c'],.int .i64 er])∧RWd (fun k=>w.heap.size≤k) w' (.slice a n c) (.slice a' n' c') x∧Ext w w'
theorem Ves {er:Int} {w w':World} (hx:Ext w w'):Vjg noW er w (.returned (.tuple #[.agg #[.slice none 0 0,.slice none 0 0],.int .i64 er])) w':=
 ⟨_,_,_,_,_,_,rfl,⟨RSl.nil_ (Nat.zero_le _),RSl.nil_ (Nat.zero_le _)⟩,hx⟩
theorem Viv {k:Nat} (h:k<5):Vdw (k:Int)=0∧Vdx (k:Int)=Vam (k:Int):=by
 have e:inB (k:Int) 0 4=true:=by unfold inB;simp;omega
 unfold Vdx Vdw;rw[e];exact⟨rfl,rfl⟩
theorem Vjz {n:Int} (hn:I64 n) (w:World):
  Calls Tryz.prog 15 #[.int .i64 n] w (Vjg (Vh2 n) (Vg9 n) w):=by
 cases hb:inB n 1 5 with
 |false=>
  have HE:Vg9 n=3:=by unfold Vg9;rw[hb];rfl
  have HV:Vh2 n=noW:=by unfold Vh2;rw[HE];rfl
  rw[HE,HV];clear HE HV;by_cases h1:n<1
  ·have t1:decide (n<1)=true:=decide_eq_true h1;clear hb;go_enter Tryz.func15,Tryz.ntmps15;go_wp2_with fail
   refine bodyPost_ret (v:= .tuple #[.agg #[.slice none 0 0,.slice none 0 0],.int .i64 3]) (by simp[results,Tryz.results15,go_sem]) rfl (Ves Qac)
  ·have t1:decide (n<1)=false:=decide_eq_false h1;have t2:decide (5<n)=true:=decide_eq_true (by unfold inB at hb;simp at hb;omega);clear hb h1;go_enter Tryz.func15,Tryz.ntmps15;go_wp2_with fail
   refine bodyPost_ret (v:= .tuple #[.agg #[.slice none 0 0,.slice none 0 0],.int .i64 3]) (by simp[results,Tryz.results15,go_sem]) rfl (Ves Qac)
 |true=>
  have h15:1≤n∧n≤5:=by unfold inB at hb;simpa using hb
  have HE:Vg9 n=0:=by unfold Vg9;rw[hb];rfl
  have HV:Vh2 n=⟨Vit n.toNat,[]⟩:=by unfold Vh2;rw[if_pos HE]
  rw[HE,HV];clear HE HV hb hn;obtain⟨m,rfl⟩:∃m:Nat,n=(m:Int):=⟨n.toNat,oM⟩;rw[show((m:Int)).toNat=m from rfl];have hm5:m≤5:=oM;have t1:decide ((m:Int)<1)=false:=decide_eq_false oM;have t2:decide (5<(m:Int))=false:=decide_eq_false oM;clear h15;obtain⟨i0,hi0,hz0,hz1,hz2⟩:=info_parts Vir;have HJ:=hH hi0;have HZ0:=hH hz0;have HZ1:=hH hz1;have HZ2:=hH hz2;clear hi0 hz0 hz1 hz2;go_enter Tryz.func15,Tryz.ntmps15;go_wp2_with fail
  refine Qad (fun W1 eW1=> ?_);obtain⟨P0,P1⟩:=rR2 eW1 (w.heap.size+1) (.slice none 0 0) (.slice none 0 0);obtain⟨Q0,Q1⟩:=rR2 eW1 w.heap.size (.slice none 0 0) (.slice none 0 0);have HF1:=hH (show∀o,W1.frozen? ⟨w.heap.size+1,o,none⟩=false∧W1.frozen? ⟨w.heap.size,o,none⟩=false from fun o=>⟨by rw[eW1];go_simp,by rw[eW1];go_simp⟩);have HX1:=hH (xE w eW1);have hw1:w.heap.size+2≤W1.heap.size:=by rw[eW1];first|omega|(simp<;>omega)
  clear eW1 t1 t2;go_loopw [16] (fun iv wr=>∃(k:Nat) (a:Option Addr) (c:Nat),k≤m∧iv= .int .i64 k∧wr.cell? ⟨w.heap.size+1,0,none⟩=some (.slice a k c)∧wr.cell? ⟨w.heap.size+1,1,none⟩=some (.slice none 0 0)∧wr.cell? ⟨w.heap.size,0,none⟩=some (.slice none 0 0)∧wr.cell? ⟨w.heap.size,1,none⟩=some (.slice none 0 0)∧wr.frozen? ⟨w.heap.size+1,0,none⟩=false∧wr.frozen? ⟨w.heap.size+1,1,none⟩=false∧wr.frozen? ⟨w.heap.size,0,none⟩=false∧wr.frozen? ⟨w.heap.size,1,none⟩=false∧Hid (OSl RCl 8 73 (w.heap.size+2) (fun j=>w.heap.size+2≤j) wr (.slice a k c) (Vit k))∧Hid (Ext w wr)) (fun iv _=>m-(intOf iv).toNat)
  case atStart=>exact⟨0,none,0,Nat.zero_le _,rfl,P0,P1,Q0,Q1,(HF1.o 0).1,(HF1.o 1).1,(HF1.o 0).2,(HF1.o 1).2,hH Qbn,HX1⟩
  case round=>
   clear P0 P1 Q0 Q1 HF1;obtain⟨k,a8,c8,hk,rfl,p0,p1,q0,q1,f0,f1,g0,g1,HO,HX⟩:=hrel;have hb0:w.heap.size+1<wr.heap.size:=World.block_lt_of_cell? _ _ p0;have hr0:w.heap.size<wr.heap.size:=World.block_lt_of_cell? _ _ q0;have hzr:w.heap.size+2≤wr.heap.size:=oM;have HOL:=hH (Qak HO.o);have hgx:∀b,b<w.heap.size+2→¬some b=(Value.slice a8 k c8).ownBlock:=fun b hb e=>by have:=(HOL.o b e.symm).1;omega
   by_cases hlt:k<m
   ·have hfl:(Vit k).length≤10:=by rw[Vhs];omega
    have hcl:(Vit k).length=k:=Vhs k;have HNE:=hH (fun(W:World)=>(Q6m (site:=(k:Int)) (Qal oM oM) W).mono fun _ _ h=>Vhp h);rw[(Viv (by omega:k<5)).1,(Viv (by omega:k<5)).2] at HNE;have HSU:=hH (Viu k);generalize Vit k=cls at *;go_wp2_with (first|(go_at_call 54;go_must ((with_reducible refine(HNE.o _).mono ?_);rintro e w3 ⟨xa1,xn1,xc1,xa2,xn2,xc2,xa3,xn3,xc3,xa4,xn4,xc4,xa5,xn5,xc5,rfl,hd3,hx3⟩;obtain⟨p03,p13⟩:=cC2 hx3 (w.heap.size+1) (.slice a8 k c8) (.slice none 0 0);obtain⟨q03,q13⟩:=cC2 hx3 (w.heap.size) (.slice none 0 0) (.slice none 0 0);have f03:=fL hx3 (w.heap.size+1) 0;have f13:=fL hx3 (w.heap.size+1) 1;have g03:=fL hx3 (w.heap.size) 0;have g13:=fL hx3 (w.heap.size) 1;have hz3:=hx3.size;(try simp at hz3);have hb3:=zL hx3 (w.heap.size+1);have hr3:=zL hx3 w.heap.size;have hs3:wr.heap.size≤w3.heap.size:=oM;have HX3:=xY wr hx3;have HD3:=hH hd3;clear hd3 hx3))|(at_builtin;go_must (refine Qaj gCl rfl (.tmp 25) (.tmp 28) 22 rfl (w.heap.size+2) 73 i0 _ 8 144 Tryz.underlying22 HJ.o HZ0.o HZ1.o HZ2.o rfl oM (F:=fun j=>w.heap.size+2≤j) (G:=fun j=>wr.heap.size≤j) (.slice a8 k c8) cls rfl (Qai gCl HO.o (ext_trans HX3.o Qac)) (.slice (some ⟨w3.heap.size+1,0,none⟩) 1 1) [⟨Vam (k:Int),0⟩] rfl (Qlh rfl (Vhu asG asG asG asG asG asG asG asG) (Vla (gDk.ext (gDk.more (fun j hj _=>(show wr.heap.size≤j by first|omega|(simp at hj;omega))) HD3.o) Qac) ⟨dC,dC⟩) ltA ltA (Nat.le_refl _) mO) Vkj (fun j hj _=>⟨Nat.le_trans hzr hj,fun e=>by have:=(HOL.o j e.symm).2;have hj':wr.heap.size≤j:=hj;omega⟩) (Vkg hfl) (Vkf hfl) ltA ?_);intro v9 w9 hown9 hg9 hat9;obtain⟨a9,n9,c9,rfl⟩:=Qab hown9;obtain rfl:n9=k+1:=(Qa2 hown9).1.trans (by rw[List.length_append,hcl];rfl);have HO9:=hH hown9;have hsz9:wr.heap.size≤w9.heap.size:=Nat.le_trans hs3 (Nat.le_trans ltA hg9.size);have p09:=(World.cell?_of_block (a:=⟨w.heap.size+1,0,none⟩) (hg9.block (w.heap.size+1) ltA (fun e=>hgx (w.heap.size+1) oM e))).trans (show _=some (.slice a8 k c8) by first|(with_reducible assumption)|go_simp);have f09:=(World.frozen?_of_block (a:=⟨w.heap.size+1,0,none⟩) (hg9.block (w.heap.size+1) ltA (fun e=>hgx (w.heap.size+1) oM e))).trans (show _=false by first|(with_reducible assumption)|go_simp);have p19:=(World.cell?_of_block (a:=⟨w.heap.size+1,1,none⟩) (hg9.block (w.heap.size+1) ltA (fun e=>hgx (w.heap.size+1) oM e))).trans (show _=some (.slice none 0 0) by first|(with_reducible assumption)|go_simp);have f19:=(World.frozen?_of_block (a:=⟨w.heap.size+1,1,none⟩) (hg9.block (w.heap.size+1) ltA (fun e=>hgx (w.heap.size+1) oM e))).trans (show _=false by first|(with_reducible assumption)|go_simp);have q09:=(World.cell?_of_block (a:=⟨w.heap.size,0,none⟩) (hg9.block (w.heap.size) ltA (fun e=>hgx (w.heap.size) oM e))).trans (show _=some (.slice none 0 0) by first|(with_reducible assumption)|go_simp);have g09:=(World.frozen?_of_block (a:=⟨w.heap.size,0,none⟩) (hg9.block (w.heap.size) ltA (fun e=>hgx (w.heap.size) oM e))).trans (show _=false by first|(with_reducible assumption)|go_simp);have q19:=(World.cell?_of_block (a:=⟨w.heap.size,1,none⟩) (hg9.block (w.heap.size) ltA (fun e=>hgx (w.heap.size) oM e))).trans (show _=some (.slice none 0 0) by first|(with_reducible assumption)|go_simp);have g19:=(World.frozen?_of_block (a:=⟨w.heap.size,1,none⟩) (hg9.block (w.heap.size) ltA (fun e=>hgx (w.heap.size) oM e))).trans (show _=false by first|(with_reducible assumption)|go_simp);have HX9:=hH (show Ext w w9 from Qao (ext_trans HX.o (ext_trans HX3.o Qac)) hg9 (fun j hj=>Nat.le_trans oM (HOL.o j hj).1));clear hown9 hg9 hat9))
    go_roundw
    case rel=>exact⟨k+1,a9,c9,hlt,by go_num,gS,gS,gS,gS,gS,gS,gS,gS,hH (by rw[HSU.o];exact Qa8 gCl HO9.o (Qae Qag (fun _ h=>h.elim (fun h=>by have h':w.heap.size+2≤w.heap.size+1:=h;omega) (fun h=>by have h':w.heap.size+2≤w.heap.size+1:=(Qak HO9.o _ h.symm).1;omega)) _)),hH (by have hx9:=HX9.o;exact Qac)⟩
    case measure=>simp[intOf];omega
   ·obtain rfl:k=m:=oM;have hxw:=HX.o;go_wp2_with fail
    refine bodyPost_ret (v:= .tuple #[.agg #[.slice a8 k c8,.slice none 0 0],.int .i64 0]) (by simp[results,Tryz.results15,go_sem,p0,p1,q0,q1]) rfl ⟨_,_,_,_,_,_,rfl,⟨((Qaz gCl HO.o (G:=fun j=>w.heap.size+2≤j) (fun _ h _=>h) (fun _ h=>h)).keep gCl (by repeat(first|(with_reducible exact Qag)|(with_reducible refine Qbh ?_)|(with_reducible refine Qae ?_ (fun _ h=>by have h':w.heap.size+2≤w.heap.size:=h;omega) _)))).more gCl (fun j h _=>Nat.le_trans (Nat.le_add_right _ 2) h),RSl.nil_ (Nat.zero_le _)⟩,Qac⟩
end Go.Proofs.YtgnccjojfebkeaaGreat
namespace Go.Proofs.YtgnccjojfebkeaaGreat
open Go Cp
def wbA:Hap:=⟨1,0,0,0,⟨#[104,105]⟩,false⟩
def wbH:List Hap:=[wbA,⟨3,0,0,0,⟨#[]⟩,true⟩,⟨3,0,0,0,⟨#[]⟩,false⟩,⟨4,1,0,9,⟨#[]⟩,false⟩]
def wbN:Wd:=Vh2 2
def wbX:Wd:=Vhy wbN wbH
def wbY:Wd:=Ver wbX
def wbZ:Wd:=Vhy wbN [wbA]
theorem Vlr:Vg9 2=0:=kR
theorem Vll:Vgc wbN wbH=0:=kR
theorem Vln:Vd8 wbX=0:=kR
theorem Vlx:Vgc wbN [wbA]=0:=kR
theorem Vlw:Vd8 wbY=0:=checkW_ok.2 (by unfold wbY Ver;rw[if_pos Vln];exact(Vg0 (checkW_ok.1 Vln)).1)
theorem Vlq:wbX.clients.length=2:=kR
theorem Vlv:(wbX.clients[1]?).map (fun c=>Qc3 c.desk.state.1)=some [104,105]:=kR
theorem Vlp:wbX.log.length=1:=kR
theorem Vls:(wbX.clients[0]?).map (fun c=>c.desk.out.length)=some 0:=kR
theorem Vlt:(wbZ.clients[0]?).map (fun c=>c.desk.out.length)=some 1:=kR
theorem Vlu:wbZ.clients.length=2:=kR
end Go.Proofs.YtgnccjojfebkeaaGreat
namespace Go.Proofs.YtgnccjojfebkeaaGreat
open Go Go.RowKit Go.BigFrame Cp
def Vic (Z:Nat→Prop) (l:List No) (n:No) (b B:Nat) (u0:Value) (w:World) (e:Ending) (w':World):Prop:=
 ∃u,e= .returned (.tuple #[.bool (Vgj l n),.int .i64 (Vfd l n)])∧w'.cell? ⟨b,1,none⟩=some u∧OSl RNo 4 48 B (fun j=>B≤j∧¬Z j) w' u (Vg3 l n)∧(∀k,u.ownBlock=some k→¬Z k∧(u0.ownBlock=some k∨w.heap.size≤k))∧
  Keeps (fun k=>k≠b∧some k≠u0.ownBlock) w w'∧w'.cell? ⟨b,0,none⟩=w.cell? ⟨b,0,none⟩∧(∀o,w'.frozen? ⟨b,o,none⟩=false)∧∀a:World,Ext a w→a.heap.size≤b→a.heap.size≤B→Ext a w'
theorem Vi2 {Z:Nat→Prop} {N S:Nat} {v v':Value} (hv:∀k,v.ownBlock=some k→¬Z k) (h:v'.ownBlock=v.ownBlock∨v'.ownBlock=some N) (hN:S≤N) (hS:∀k,S≤k→¬Z k):∀k,v'.ownBlock=some k→¬Z k:=by
 intro k hk;rcases h with h|h
 ·exact hv k (h.symm.trans hk)
 ·rw[h] at hk;injection hk with hk;subst hk;exact hS _ hN
theorem Vj2 {N S:Nat} {v v':Value} (h:v'.ownBlock=v.ownBlock∨v'.ownBlock=some N) (hN:S≤N):∀k,v'.ownBlock=some k→v.ownBlock=some k∨S≤k:=by
 intro k hk;rcases h with h|h
 ·exact .inl (h.symm.trans hk)
 ·rw[h] at hk;injection hk with hk;subst hk;exact .inr hN
theorem Vkt {Z:Nat→Prop} {b B:Nat} {v:Value} (hb:Z b) (hv:∀k,v.ownBlock=some k→¬Z k) (h:(B≤b∧¬Z b)∨some b=v.ownBlock):False:=by
 rcases h with h|h
 ·exact h.2 hb
 ·exact hv b h.symm hb
theorem Vfk {Z:Nat→Prop} {l:List No} {n:No} {b B:Nat} {er:Int} {w w':World} {u:Value} (hob:∀k,u.ownBlock=some k→¬Z k) (hbw:b<w.heap.size) (hf:∀o,w.frozen? ⟨b,o,none⟩=false) (hB:Vgj l n=false) (hE:Vfd l n=er) (hc:w'.cell? ⟨b,1,none⟩=some u) (ho:OSl RNo 4 48 B (fun j=>B≤j∧¬Z j) w u l) (hx:Ext w w'):
  Vic Z l n b B u w (.returned (.tuple #[.bool false,.int .i64 er])) w':=by
 refine⟨u,by rw[hB,hE],hc,?_,fun k hk=>⟨hob k hk,.inl hk⟩,.of_below hx,hx.cells _ _ hbw,fun o=>(hx.frz _ _ hbw).trans (hf o),fun a ha _ _=>ext_trans ha hx⟩;unfold Vg3;rw[hB];exact Qai gNo ho hx
theorem Vg7 {F:Nat→Prop} {w w1 w2:World} {v:Value} {b:Nat} (hx:Ext w w1) (hg:w1.grownBy w2 v.ownBlock) (u:Value) (o:Nat) (hF:∀k,F k→k≠b∧some k≠v.ownBlock):Keeps F w (w2.setCell ⟨b,o,none⟩ u):=
 Qae ((Keeps.of_below hx).trans ⟨hg.size,fun k hk hlt=>hg.block k hlt (hF k hk).2⟩) (fun _ h=>(hF b h).1 rfl) _
theorem Vji {F Z:Nat→Prop} {w:World} {b B:Nat} {u:Value} {cs:List Value} {l:List No} {n:No} (hc:w.cell? ⟨b,1,none⟩=some u) (hff:∀o,w.frozen? ⟨b,o,none⟩=false) (hzb:Z b) (hzl:∀k,Z k→k<w.heap.size) (ho:OSl RNo 4 48 B (fun j=>B≤j∧¬Z j) w u l) (hob:∀k,u.ownBlock=some k→¬Z k)
  (hBw:B≤w.heap.size) (hn:RNo F w cs n) (hk:Qa0 n=0) (hl:l.length≤300):
  Calls Tryz.prog 98 #[.pointer (some ⟨b,1,none⟩),.agg cs.toArray] w (Vic Z l n b B u w):=by
 have HNU:=hH (fun(W:World) (hx:Ext w W)=>Vha ((Qaz gNo ho (G:=fun _=>True) (fun _ _ _=>trivial) (fun _ _=>trivial)).ext gNo hx) (show l.length≤1000 by omega));obtain⟨s1,s2,s3⟩:=Qja hk;have HOW:=hH (fun(W:World) (hx:Ext w W)=>Qo3 (gNo.ext hn hx) s1 s2 s3);have i1:I64 n.site:=by obtain⟨_,_,_,i,_⟩:=hn;exact i
 have HWF:=WalkArith.wf_i64 i1;have HO:=hH ho;have HOL:=hH (Qak ho);have hle:=Vga l n.site;obtain⟨v,x,rfl,_,_,h1,h2⟩:=hn;obtain⟨a1,n1,c1,rfl⟩:=h1.slice;obtain⟨a2,n2,c2,rfl⟩:=h2.slice;obtain⟨a0,n0,c0,rfl⟩:=Qab ho;obtain rfl:n0=l.length:=(Qa2 ho).1;have hbw:b<w.heap.size:=World.block_lt_of_cell? _ _ hc;have HOB:=hH hob;have HFF:=hH hff;have hf:=hff 1;have HZB:=hH hzb;have HZL:=hH hzl;have HBW:=hH hbw;have hbn:¬b=w.heap.size:=oM;obtain⟨h,hh⟩:∃h:Nat,Vep l n.site=h:=⟨_,rfl⟩;have hh3:h≤300:=oM;clear hob hff hzb hzl ho h1 h2 s1 s2 s3 i1 hk hle;go_enter Tryz.func98,Tryz.ntmps98;go_wp2_with fail
 refine Qad (fun W1 eW1=> ?_);obtain⟨e0,e1,e2,e3⟩:=rR4 eW1 w.heap.size (.int .i64 n.site) (.int .i64 n.number) (.slice a1 n1 c1) (.slice a2 n2 c2);have e4:=rL eW1 ⟨b,1,none⟩ (.slice a0 l.length c0);have ef:W1.frozen? ⟨b,1,none⟩=false:=by rw[eW1];go_simp
 have hw1:=xE w eW1;have z1:w.heap.size<W1.heap.size:=World.block_lt_of_cell? _ _ e0;have z2:b<W1.heap.size:=oM;clear eW1 hc hf;go_cut [6] from 7 (fun s wx=>s= .int .i64 ((h+1:Nat):Int)∧Hid (Ext W1 wx))
 case first=>
  go_region_held3 (fun W=>W.cell? ⟨w.heap.size,0,none⟩=some (.int .i64 n.site)∧W.cell? ⟨b,1,none⟩=some (.slice a0 l.length c0))
   (first|(refine⟨?_,?_⟩<;>(with_reducible assumption))|(refine⟨?_,?_⟩<;>(rw[hx2.cells _ _ ltA];first|(with_reducible assumption)|go_simp))|go_keep)
   (first|(go_at_call 171;go_must ((with_reducible refine(HNU.o _ (ext_trans hw1 Qac)).mono ?_);rintro e w2 ⟨b2,D,rfl,_,hown,hhas,hx2⟩;have hz2:=hx2.size;(try simp at hz2);obtain⟨c,hrun,hat,_⟩:=hown.lookup_int Vjw Tryz.underlying199 Tryz.underlying3 (Via _) (Go.Maps.keyOf_int_mk Tryz.underlying3 HWF))))
  all_goals (go_wp2_with fail;go_meet)
  all_goals
   refine⟨?_,hH (ext_trans Qac hx2)⟩;obtain⟨hce,_⟩:=Vel (n:=n) hhas hat (show l.length≤1000 by omega);rw[hce,hh];first
    |rw[Vgi (show h≤1000 by omega)]
    |rw[IntWalk.i64_left,Vgi (show h≤1000 by omega)]
 case rest=>
  obtain⟨rfl,HXC⟩:=hcut;obtain⟨y0,y1,y2,y3⟩:=tT4 HXC.o z1 e0 e1 e2 e3;have y4:=(HXC.o.cells _ 1 z2).trans e4;have yf:=(HXC.o.frz _ 1 z2).trans ef;have HXW:=hH (ext_trans hw1 HXC.o);have hzc:=HXC.o.size;have z3:w.heap.size<wc.heap.size:=oM;have z4:b<wc.heap.size:=oM;clear e0 e1 e2 e3 e4 ef;have HN:=hH hh;by_cases hq1:n.number<((h:Int)+1)
  ·have t1:decide (n.number<((h:Int)+1))=true:=decide_eq_true hq1;have hB:Vgj l n=false:=by unfold Vgj;rw[hh,decide_eq_false oM];rfl
   have hE:Vfd l n=0:=by unfold Vfd;rw[hh,if_neg oM,if_neg oM]
   have HB:=hH hB;have HE:=hH hE;clear hB hE hh hq1;go_wp2_with fail
   go_ret2
   exact Vfk HOB.o HBW.o HFF.o HB.o HE.o y4 HO.o HXW.o
  ·have t1:decide (n.number<((h:Int)+1))=false:=decide_eq_false hq1;by_cases hq2:((h:Int)+1)<n.number
   ·have t2:decide (((h:Int)+1)<n.number)=true:=decide_eq_true hq2;have hB:Vgj l n=false:=by unfold Vgj;rw[hh,decide_eq_false oM];rfl
    have hE:Vfd l n=4:=by unfold Vfd;rw[hh,if_pos oM]
    have HB:=hH hB;have HE:=hH hE;clear hB hE hh hq1 hq2;go_wp2_with fail
    go_ret2
    exact Vfk HOB.o HBW.o HFF.o HB.o HE.o y4 HO.o HXW.o
   ·have t2:decide (((h:Int)+1)<n.number)=false:=decide_eq_false hq2;by_cases hq3:l.length=300
    ·have t3:((l.length:Int)==300)=true:=by rw[hq3];rfl
     have hB:Vgj l n=false:=by unfold Vgj;rw[hq3];simp
     have hE:Vfd l n=2:=by unfold Vfd;rw[hh,if_neg oM,if_pos ⟨oM,hq3⟩]
     have HB:=hH hB;have HE:=hH hE;clear hB hE hh hq1 hq2 hq3;go_wp2_with fail
     go_ret2
     exact Vfk HOB.o HBW.o HFF.o HB.o HE.o y4 HO.o HXW.o
    ·have t3:((l.length:Int)==300)=false:=by
      rw[beq_eq_false_iff_ne];omega
     have hB:Vgj l n=true:=by unfold Vgj;rw[hh,decide_eq_true oM,decide_eq_true hq3];rfl
     have hE:Vfd l n=0:=by unfold Vfd;rw[hh,if_neg oM,if_neg (fun e=>hq3 e.2)]
     have HB:=hH hB;have HE:=hH hE;clear hB hE hh hq1 hq2 hq3;obtain⟨i0,hi0,hz0,hz1',hz2⟩:=info_parts Qfg;have HJ:=hH hi0;have HZ0:=hH hz0;have HZ1:=hH hz1';have HZ2:=hH hz2;clear hi0 hz0 hz1' hz2;go_upto_region 8 with fail
     refine Qad (fun W5 eW5=> ?_);obtain⟨e0,e1,e2,e3⟩:=rR4 eW5 w.heap.size (.int .i64 n.site) (.int .i64 n.number) (.slice a1 n1 c1) (.slice a2 n2 c2);have e4:=rL eW5 ⟨b,1,none⟩ (.slice a0 l.length c0);have ef:W5.frozen? ⟨b,1,none⟩=false:=by rw[eW5];go_simp
     have hw5:=xE w eW5 (ext_trans HXW.o Qac);have z5:w.heap.size<W5.heap.size:=World.block_lt_of_cell? _ _ e0;have z6:b<W5.heap.size:=oM;clear eW5 y0 y1 y2 y3 y4 yf HXC HXW;have hl1:l.length≤1000:=oM;have HL1:=hH hl1;have hl3:=hl;clear hl1 t1 t2 t3;generalize n.site=st at *;generalize n.number=nu at *;go_cut [] from 33 (fun wx=>∃u,wx.cell? ⟨b,1,none⟩=some u∧Hid (OSl RNo 4 48 B (fun j=>B≤j∧¬Z j) wx u (l++[n]))∧Hid (∀k,u.ownBlock=some k→¬Z k)∧Hid (∀k,u.ownBlock=some k→(Value.slice a0 l.length c0).ownBlock=some k∨w.heap.size≤k)∧Hid (Keeps (fun k=>k≠b∧some k≠(Value.slice a0 l.length c0).ownBlock) w wx)∧Hid (wx.cell? ⟨b,0,none⟩=w.cell? ⟨b,0,none⟩∧∀o,wx.frozen? ⟨b,o,none⟩=false)∧Hid (∀a:World,Ext a w→a.heap.size≤b→a.heap.size≤B→Ext a wx))
     case first=>
      go_region_law (first
       |(go_simp;go_at_call 158;go_must ((with_reducible refine(HOW.o _ (ext_trans hw5 Qac)).mono ?_);rintro e w3 ⟨cs3,rfl,hn3,hx3⟩;have HN3:=hH hn3;obtain⟨v3,u3,rfl,_,_,hv3,hu3⟩:=hn3;obtain⟨a3,n3,c3,rfl⟩:=hv3.slice;obtain⟨a4,n4,c4,rfl⟩:=hu3.slice;clear hv3 hu3;have hz3:=hx3.size;(try simp at hz3);have hb3:=zL hx3 w.heap.size;have hb4:=zL hx3 b;have x4:=cL hx3 b 1 (.slice a0 l.length c0);have xf:=fL hx3 b 1;have HX3:=hH (show Ext w w3 from ext_trans (ext_trans hw5 Qac) hx3)))
       |((refine Qa7 gNo rfl (.tmp 37) (.tmp 40) 23 rfl B 48 i0 _ 4 64 Tryz.underlying23 HJ.o HZ0.o HZ1.o HZ2.o rfl oM (F:=fun j=>B≤j∧¬Z j) (G:=fun j=>w.heap.size≤j) (.slice a0 l.length c0) l rfl (Qai gNo HO.o (ext_trans HX3.o Qac)) (.slice (some ⟨w3.heap.size,0,none⟩) 1 1) [n] rfl (Qlh rfl (Qis asG asG asG asG) (gNo.ext (gNo.more (fun j hj _=>(show w.heap.size≤j by first|omega|(simp at hj;omega))) HN3.o) Qac) (Nat.le_of_lt hb3) ltA (Nat.le_refl _) mO) Qei (fun j hj _=>⟨⟨Nat.le_trans hBw hj,fun e=>by have hj':w.heap.size≤j:=hj;have:=HZL.o j e;omega⟩,fun e=>by have:=(HOL.o j e.symm).2;have hj':w.heap.size≤j:=hj;omega⟩) (Ql7 HL1.o) (Qj1 HL1.o) ltA ?_);intro v9 w9 hown9 hg9 hat9;obtain⟨a9,n9,c9,rfl⟩:=Qab hown9;have hgb:=hg9.block b ltA (fun e=>HOB.o b e.symm HZB.o);have HV9:=hH (show∀k,(Value.slice a9 n9 c9).ownBlock=some k→¬Z k from Vi2 (S:=w.heap.size) HOB.o hat9 (Nat.le_trans HX3.o.size (show Ext w3 _ from Qac).size) (fun k hk hz=>by have:=HZL.o k hz;omega));have HU9:=hH (Vj2 (S:=w.heap.size) hat9 (Nat.le_trans HX3.o.size (show Ext w3 _ from Qac).size));have s4:w9.cell? ⟨b,1,none⟩=some (.slice a0 l.length c0):=(World.cell?_of_block (a:=⟨b,1,none⟩) hgb).trans gS;have sf:w9.frozen? ⟨b,1,none⟩=false:=(World.frozen?_of_block (a:=⟨b,1,none⟩) hgb).trans gS))
      all_goals (go_wp2_with fail;go_meet)
      all_goals
       refine⟨_,World.cell?_setCell_same _ _ _ s4,hH (Qa8 gNo hown9 (Qae Qag (fun _ h=>Vkt HZB.o HV9.o h) _)),HV9,HU9,hH (Vg7 (show Ext w _ from ext_trans HX3.o Qac) hg9 _ _ (fun _ h=>h)),hH ⟨(World.cell?_setCell_other _ _ _ _ sI).trans ((World.cell?_of_block (a:=⟨b,0,none⟩) hgb).trans ((show Ext w _ from ext_trans HX3.o Qac).cells b 0 HBW.o)),Qy4 (fun o=>(World.frozen?_of_block (a:=⟨b,o,none⟩) hgb).trans (((show Ext w _ from ext_trans HX3.o Qac).frz b o HBW.o).trans (HFF.o o)))⟩,hH (fun a ha hab haB=>ext_set (Qao (ext_trans ha (ext_trans HX3.o Qac)) hg9 (fun j hj=>by have:=(HOL.o j hj).1;omega)) hab _)⟩
     case rest=>
      obtain⟨u,hc,ho,hv,hw9,hkp,hcf,hx⟩:=hcut;go_wp2_with fail
      go_ret2
      refine⟨u,by rw[HB.o,HE.o];rfl,hc,?_,fun k hk=>⟨hv.out k hk,hw9.out k hk⟩,hkp.out,hcf.out.1,hcf.out.2,hx.out⟩;unfold Vg3;rw[HB.o];exact ho.out
def Vgz (w:World) (b:Nat):Nat→List Value→World
 |_,[]=>w
 |o,u::r=>Vgz (w.setCell ⟨b,o,none⟩ u) b (o+1) r
def Vib:List Value→Nat→List Value→List Value
 |xs,_,[]=>xs
 |xs,o,u::r=>Vib (xs.set o u) (o+1) r
theorem Vgf:∀(us xs:List Value) (o:Nat),(Vib xs o us).length=xs.length
 | [],xs,o=>rfl
 |u::r,xs,o=>(Vgf r (xs.set o u) (o+1)).trans (List.length_set ..)
theorem Ve4:∀(us xs:List Value) (o m:Nat),m<o∨o+us.length≤m→(Vib xs o us)[m]?=xs[m]?
 | [],xs,o,m,_=>rfl
 |u::r,xs,o,m,h=>by
  have hl:(u::r).length=r.length+1:=rfl
  show(Vib (xs.set o u) (o+1) r)[m]?=_
  rw[Ve4 r (xs.set o u) (o+1) m oM,List.getElem?_set_ne oM]
theorem Vhi:∀(us xs:List Value) (o j:Nat),j<us.length→o+us.length≤xs.length→(Vib xs o us)[o+j]?=us[j]?
 | [],xs,o,j,h,_=>by simp at h
 |u::r,xs,o,j,h,hl=>by
  have hr:(u::r).length=r.length+1:=rfl
  show(Vib (xs.set o u) (o+1) r)[o+j]?=_
  cases j with
  |zero=>rw[Ve4 r (xs.set o u) (o+1) (o+0) oM,Nat.add_zero,List.getElem?_set_self oM];rfl
  |succ j=>rw[show o+(j+1)=(o+1)+j by omega,Vhi r (xs.set o u) (o+1) j oM (by rw[List.length_set];omega)];rfl
theorem Vht {base e sz n b c:Nat}:∀(us:List Value) (o:Nat) (w:World) (xs:List Value),w.ownsRow base e sz (.slice (some ⟨b,0,none⟩) n c) n xs→(Vgz w b o us).ownsRow base e sz (.slice (some ⟨b,0,none⟩) n c) n (Vib xs o us)
 | [],o,w,xs,h=>h
 |u::r,o,w,xs,h=>Vht r (o+1) _ _ (by simpa using (World.ownsRow.stored h o u).1)
theorem Vfb {F:Nat→Prop} {b:Nat} (hF:¬F b) {a:World}:∀(us:List Value) (o:Nat) (w:World),Keeps F a w→Keeps F a (Vgz w b o us)
 | [],o,w,h=>h
 |u::r,o,w,h=>Vfb hF r (o+1) _ (Qae h (fun _=>hF) u)
theorem Vez {a:World} {b:Nat} (hb:a.heap.size≤b):∀(us:List Value) (o:Nat) (w:World),Ext a w→Ext a (Vgz w b o us)
 | [],o,w,h=>h
 |u::r,o,w,h=>Vez hb r (o+1) _ (ext_set h hb u)
theorem Vgb {α:Type} {R:Rd α} (g:Cp.Good R) {sz e base:Nat} {F:Nat→Prop} {w:World} {b n c:Nat} {l:List α} (h:OSl R sz e base F w (.slice (some ⟨b,0,none⟩) n c) l) {i:Nat} {y x:α} (hi:l[i]?=some y) {p:Nat} (us:List Value) (hu:p+us.length≤sz)
  (hx:∀cs,cs.length=sz→R (fun k=>F k∧k≠b) w cs y→R (fun k=>F k∧k≠b) w (Vib cs p us) x):OSl R sz e base F (Vgz w b (i * sz+p) us) (.slice (some ⟨b,0,none⟩) n c) (l.set i x):=by
 have hil:i<l.length:=(List.getElem?_eq_some_iff.1 hi).1;have hn:n=l.length:=(Qa2 h).1;subst hn;obtain⟨xs,h1,h2⟩:=h;have hkeep:Keeps (fun k=>F k∧some k≠(Value.slice (some ⟨b,0,none⟩) l.length c).ownBlock) w (Vgz w b (i * sz+p) us):=Vfb (fun hp=>hp.2 rfl) us _ w Qag;have hxl:xs.length=l.length * sz:=h2.1;have hsz:∀k,k<l.length→k * sz+sz≤xs.length:=fun k hk=>by
  have:(k+1) * sz≤l.length * sz:=Nat.mul_le_mul_right _ hk;rw[Nat.succ_mul] at this;omega
 have him:=hsz i hil;refine⟨Vib xs (i * sz+p) us,by simpa using Vht us (i * sz+p) w xs h1,by rw[Vgf,List.length_set];exact hxl,fun k z hk=> ?_⟩;by_cases hki:k=i
 ·subst hki;rw[List.getElem?_set_self hil] at hk;obtain rfl:x=z:=by simpa using hk
  have h3:=h2.2 k y hi;have h4:=hx _ (by rw[List.length_take,List.length_drop];omega) (g.more (fun k hk _=>⟨hk.1,fun e=>hk.2 (by rw[e];rfl)⟩) h3);have e:((Vib xs (k * sz+p) us).drop (k * sz)).take sz=Vib ((xs.drop (k * sz)).take sz) p us:=by
   apply List.ext_getElem?
   intro m;have hlen:((xs.drop (k * sz)).take sz).length=sz:=by rw[List.length_take,List.length_drop];omega
   by_cases hm:m<sz
   ·rw[List.getElem?_take_of_lt hm,List.getElem?_drop];by_cases hin:p≤m∧m<p+us.length
    ·obtain⟨j,rfl⟩:∃j,m=p+j:=⟨m-p,oM⟩;rw[show k * sz+(p+j)=k * sz+p+j by omega,Vhi us xs (k * sz+p) j oM oM,Vhi us _ p j oM oM]
    ·rw[Ve4 us xs _ _ oM,Ve4 us _ _ _ oM,List.getElem?_take_of_lt hm,List.getElem?_drop]
   ·rw[List.getElem?_eq_none (by rw[List.length_take];omega),List.getElem?_eq_none (by rw[Vgf,hlen];omega)]
  rw[e];exact g.keep hkeep (g.more (fun k hk _=>⟨hk.1,fun e=>hk.2 (by simpa [Value.ownBlock] using e)⟩) h4)
 ·rw[List.getElem?_set_ne (Ne.symm hki)] at hk;have h3:=g.keep hkeep (h2.2 k z hk);have hkl:k<l.length:=(List.getElem?_eq_some_iff.1 hk).1;have e:((Vib xs (i * sz+p) us).drop (k * sz)).take sz=(xs.drop (k * sz)).take sz:=by
   apply List.ext_getElem?
   intro m;by_cases hm:m<sz
   ·rw[List.getElem?_take_of_lt hm,List.getElem?_take_of_lt hm,List.getElem?_drop,List.getElem?_drop,Ve4];rcases Nat.lt_or_gt_of_ne hki with h|h
    ·have:(k+1) * sz≤i * sz:=Nat.mul_le_mul_right _ h;rw[Nat.succ_mul] at this;omega
    ·have:(i+1) * sz≤k * sz:=Nat.mul_le_mul_right _ h;rw[Nat.succ_mul] at this;omega
   ·rw[List.getElem?_eq_none (by rw[List.length_take];omega),List.getElem?_eq_none (by rw[List.length_take];omega)]
  rw[e];exact h3
structure WdAt (B b:Nat) (x:Wd) (w:World) (g cap:Nat) (u:Value):Prop where
 c0:w.cell? ⟨b,0,none⟩=some (.slice (some ⟨g,0,none⟩) x.clients.length cap)
 c1:w.cell? ⟨b,1,none⟩=some u
 fz:∀o,w.frozen? ⟨b,o,none⟩=false
 le:B≤b
 cli:OSl RCl 8 73 B (fun j=>B≤j∧j≠b∧some j≠u.ownBlock) w (.slice (some ⟨g,0,none⟩) x.clients.length cap) x.clients
 log:OSl RNo 4 48 B (fun j=>B≤j∧¬(j=b∨j=g)) w u x.log
 ub:∀k,u.ownBlock=some k→¬(k=b∨k=g)
 gb:¬g=b
section
variable {B b g cap:Nat} {x:Wd} {w w':World} {u:Value}
theorem WdAt.lt (h:WdAt B b x w g cap u):b<w.heap.size:=World.block_lt_of_cell? _ _ h.c0
theorem WdAt.glt (h:WdAt B b x w g cap u):B≤g∧g<w.heap.size:=Qak h.cli g rfl
theorem WdAt.ug (h:WdAt B b x w g cap u):some g≠u.ownBlock:=fun e=>h.ub g e.symm (.inr rfl)
theorem WdAt.ext (h:WdAt B b x w g cap u) (hx:Ext w w'):WdAt B b x w' g cap u:=
 ⟨(hx.cells _ _ h.lt).trans h.c0,(hx.cells _ _ h.lt).trans h.c1,fun o=>(hx.frz _ _ h.lt).trans (h.fz o),h.le,Qai gCl h.cli hx,Qai gNo h.log hx,h.ub,h.gb⟩
theorem WdAt.read (h:WdAt B b x w g cap u):RWd (fun k=>B≤k) w (.slice (some ⟨g,0,none⟩) x.clients.length cap) u x:=
 ⟨Qaz gCl h.cli (fun _ h _=>h.1) (fun _ h=>h),Qaz gNo h.log (fun _ h _=>h.1) (fun _ h=>h)⟩
theorem WdAt.cli_ (h:WdAt B b x w g cap u) (hk:Keeps (fun k=>k≠g) w w') {l:List Cl} (hl:l.length=x.clients.length) (hc:OSl RCl 8 73 B (fun j=>B≤j∧j≠b∧some j≠u.ownBlock) w' (.slice (some ⟨g,0,none⟩) x.clients.length cap) l):WdAt B b {x with clients:=l} w' g cap u:=by
 have hb:=hk.block b (fun e=>h.gb e.symm) h.lt;refine⟨?_,(World.cell?_of_block (a:=⟨b,1,none⟩) hb).trans h.c1,fun o=>(World.frozen?_of_block (a:=⟨b,o,none⟩) hb).trans (h.fz o),h.le,?_,Qa8 gNo h.log (hk.weaken fun k _ hk e=> ?_),h.ub,h.gb⟩
 ·show w'.cell? ⟨b,0,none⟩=some (.slice (some ⟨g,0,none⟩) l.length cap)
  rw[hl];exact(World.cell?_of_block (a:=⟨b,0,none⟩) hb).trans h.c0
 ·show OSl RCl 8 _ B _ w' (.slice (some ⟨g,0,none⟩) l.length cap) l
  rw[hl];exact hc
 ·rcases hk with h1|h1
  ·exact h1.2 (.inr e)
  ·exact h.ub k h1.symm (.inr e)
theorem WdAt.desk_ {i:Nat} {c:Cl} {d:Dk} {F:Nat→Prop} {va vg vs vw vo:Value} (h:WdAt B b x w g cap u) (hi:x.clients[i]?=some c) (hd:RDk F w [.int .i64 d.site,va,vg,vs,vw,.int .i64 d.clock,vo] d) (hF:∀k,F k→k<w.heap.size→(B≤k∧k≠b∧some k≠u.ownBlock)∧k≠g):
  WdAt B b {x with clients:=x.clients.set i {c with desk:=d}} (Vgz w g (i * 8+0) [.int .i64 d.site,va,vg,vs,vw,.int .i64 d.clock,vo]) g cap u:=by
 have hd':=gDk.more hF hd;refine h.cli_ (Vfb (fun e=>e rfl) _ _ w Qag) (List.length_set ..) (Vgb gCl h.cli hi _ sI fun cs hl hc=> ?_);obtain⟨a1,a2,a3,a4,a5,rfl,_,hc⟩:=hc;exact⟨va,vg,vs,vw,vo,rfl,hd',hc⟩
theorem WdAt.cursor_ {i:Nat} {c:Cl} {k:Int} (h:WdAt B b x w g cap u) (hi:x.clients[i]?=some c) (hk:I64 k):
  WdAt B b {x with clients:=x.clients.set i {c with cursor:=k}} (w.setCell ⟨g,i * 8+7,none⟩ (.int .i64 k)) g cap u:=by
 refine h.cli_ (Qae Qag (fun _ e=>e rfl) _) (List.length_set ..) (Vgb gCl h.cli hi (p:=7) [.int .i64 k] sI fun cs hl hc=> ?_);obtain⟨a1,a2,a3,a4,a5,rfl,hd,_⟩:=hc;exact⟨a1,a2,a3,a4,a5,rfl,hd,hk⟩
theorem WdAt.out_ {i:Nat} {c:Cl} {l:List No} {F:Nat→Prop} {v:Value} (h:WdAt B b x w g cap u) (hi:x.clients[i]?=some c) (hv:RSl RNo 4 F w v l) (hF:∀k,F k→k<w.heap.size→(B≤k∧k≠b∧some k≠u.ownBlock)∧k≠g):
  WdAt B b {x with clients:=x.clients.set i {c with desk:={c.desk with out:=l}}} (w.setCell ⟨g,i * 8+6,none⟩ v) g cap u:=by
 have hv':=hv.more gNo hF;refine h.cli_ (Qae Qag (fun _ e=>e rfl) _) (List.length_set ..) (Vgb gCl h.cli hi (p:=6) [v] sI fun cs hl hc=> ?_);obtain⟨a1,a2,a3,a4,a5,rfl,hd,hcur⟩:=hc;obtain⟨h1,h2,h3,h4,h5⟩:=Vea hd;obtain⟨_,_,_,_,_,_,is,_,_,_,_,ic,_⟩:=hd;exact⟨a1,a2,a3,a4,v,rfl,⟨_,_,_,_,_,rfl,is,h1,h2,h3,h4,ic,hv'⟩,hcur⟩
theorem WdAt.log_ {n:No} {e:Ending} {u0:Value} (h:WdAt B b x w g cap u0) (k:Vic (fun k=>k=b∨k=g) x.log n b B u0 w e w'):∃u,e= .returned (.tuple #[.bool (Vgj x.log n),.int .i64 (Vfd x.log n)])∧WdAt B b {x with log:=Vg3 x.log n} w' g cap u∧∀a:World,Ext a w→a.heap.size≤B→Ext a w':=by
 obtain⟨u,e1,e2,e3,e4,e5,e6,e7,e8⟩:=k;refine⟨u,e1,⟨e6.trans h.c0,e2,e7,h.le,?_,e3,fun k hk=>(e4 k hk).1,h.gb⟩,fun a ha hB=>e8 a ha (Nat.le_trans hB h.le) hB⟩;have h1:=Qbt gCl h.cli (G:=fun j=>(B≤j∧j≠b∧some j≠u0.ownBlock)∧j<w.heap.size) (fun k hk hl _=>⟨hk,hl⟩);have h2:=Qa8 gCl h1 (e5.weaken fun k _ hk=>by
  rcases hk with hk|hk
  ·exact⟨hk.1.2.1,hk.1.2.2⟩
  ·obtain rfl:k=g:=by simpa [Value.ownBlock] using hk
   exact⟨h.gb,h.ug⟩)
 refine Qbt gCl h2 (fun k hk _ _=>⟨hk.1.1,hk.1.2.1,fun e=> ?_⟩);rcases(e4 k e.symm).2 with h3|h3
 ·exact hk.1.2.2 h3.symm
 ·have:=hk.2;omega
theorem WdAt.at_ {i:Nat} {c:Cl} (h:WdAt B b x w g cap u) (hi:x.clients[i]?=some c):∃(a1:Option Addr) (n1 c1:Nat) (a2:Option Addr) (n2 c2:Nat) (a3:Option Addr) (n3 c3:Nat) (a4:Option Addr) (n4 c4:Nat) (a5:Option Addr) (n5 c5:Nat),I64 c.cursor∧
  RDk (fun j=>(B≤j∧j≠b∧some j≠u.ownBlock)∧j≠g) w [.int .i64 c.desk.site,.slice a1 n1 c1,.slice a2 n2 c2,.slice a3 n3 c3,.slice a4 n4 c4,.int .i64 c.desk.clock,.slice a5 n5 c5] c.desk∧
  (w.cell? ⟨g,i * 8,none⟩=some (.int .i64 c.desk.site)∧w.cell? ⟨g,i * 8+1,none⟩=some (.slice a1 n1 c1)∧w.cell? ⟨g,i * 8+2,none⟩=some (.slice a2 n2 c2)∧w.cell? ⟨g,i * 8+3,none⟩=some (.slice a3 n3 c3)∧
   w.cell? ⟨g,i * 8+4,none⟩=some (.slice a4 n4 c4)∧w.cell? ⟨g,i * 8+5,none⟩=some (.int .i64 c.desk.clock)∧w.cell? ⟨g,i * 8+6,none⟩=some (.slice a5 n5 c5)∧w.cell? ⟨g,i * 8+7,none⟩=some (.int .i64 c.cursor))∧∀o,w.frozen? ⟨g,o,none⟩=false:=by
 obtain⟨g',y,cs,_,e2,_,_,e3,_,e4,e5,e6⟩:=Qlb h.cli (List.getElem?_eq_some_iff.1 hi).1;injection e2 with e2
 injection e2 with e2
 subst e2;rw[hi] at e3;obtain rfl:=Option.some.inj e3;obtain⟨va,vg,vs,vw,vo,rfl,hd,hk⟩:=e5;obtain⟨h1,h2,h3,h4,h5⟩:=Vea hd;obtain⟨a1,n1,c1,rfl⟩:=h1.slice;obtain⟨a2,n2,c2,rfl⟩:=h2.slice;obtain⟨a3,n3,c3,rfl⟩:=h3.slice;obtain⟨a4,n4,c4,rfl⟩:=h4.slice;obtain⟨a5,n5,c5,rfl⟩:=h5.slice;exact⟨a1,n1,c1,a2,n2,c2,a3,n3,c3,a4,n4,c4,a5,n5,c5,hk,hd,⟨by simpa using e4 0 _ rfl,by simpa [Nat.add_assoc] using e4 1 _ rfl,by simpa [Nat.add_assoc] using e4 2 _ rfl,by simpa [Nat.add_assoc] using e4 3 _ rfl,by simpa [Nat.add_assoc] using e4 4 _ rfl,by simpa [Nat.add_assoc] using e4 5 _ rfl,by simpa [Nat.add_assoc] using e4 6 _ rfl,by simpa [Nat.add_assoc] using e4 7 _ rfl⟩,e6⟩
end
theorem Vf1 {F:Nat→Prop} {w:World} {a:Option Addr} {n cap:Nat} {m:No} {r:List No} (h:RSl RNo 4 F w (.slice a n cap) (m::r)):
  ∃b o a1 n1 c1 a2 n2 c2,a=some ⟨b,o,none⟩∧b<w.heap.size∧n=r.length+1∧n≤cap∧cap≤maxLen∧RNo F w [.int .i64 m.site,.int .i64 m.number,.slice a1 n1 c1,.slice a2 n2 c2] m∧
   w.cell? ⟨b,o,none⟩=some (.int .i64 m.site)∧w.cell? ⟨b,o+1,none⟩=some (.int .i64 m.number)∧w.cell? ⟨b,o+2,none⟩=some (.slice a1 n1 c1)∧w.cell? ⟨b,o+3,none⟩=some (.slice a2 n2 c2):=by
 obtain⟨k1,k2,k3⟩:=h.len;obtain⟨b,o,d,a1,n1,c1,a2,n2,c2,e1,e2,e3,e4,e5,e6,e7,e8⟩:=Qdj h (i:=0) (by rw[k1];exact Nat.succ_pos _);obtain rfl:m=d:=by simpa using e3
 exact⟨b,o,a1,n1,c1,a2,n2,c2,e1,e2,k1,k2,k3,e4,by simpa using e5,by simpa using e6,by simpa using e7,by simpa using e8⟩
theorem Vh9 {F:Nat→Prop} {w:World} {b o n c:Nat} {l:List No} (h:RSl RNo 4 F w (.slice (some ⟨b,o,none⟩) n c) l) (hn:1≤n):RSl RNo 4 F w (.slice (some ⟨b,o+4,none⟩) (n-1) (c-1)) l.tail:=by
 have:=Q7b h hn;rw[List.drop_one] at this;simpa using this
theorem Vhk {F:Nat→Prop} {w:World} {b o n c:Nat} {l:List No} (h:RSl RNo 4 F w (.slice (some ⟨b,o,none⟩) n c) l) (hn:1≤n) (hc:c=1):RSl RNo 4 F w (.slice (some ⟨b,o,none⟩) (n-1) 0) l.tail:=by
 obtain⟨h1,h2,_⟩:=h.len;have e:n-1=0:=oM;have e2:l.tail=[]:=List.eq_nil_of_length_eq_zero (by rw[List.length_tail];omega);rw[e,e2];exact RSl.nil_ (Nat.zero_le _)
theorem Vhl {l:List No} {n:No} (h:¬Vfd l n=0):Vg3 l n=l:=by
 unfold Vg3;split
 ·rename_i hb
  have h2:n.number=(Vep l n.site:Int)+1∧l.length≠300:=by unfold Vgj at hb;simpa using hb
  exact absurd (by unfold Vfd;rw[if_neg oM,if_neg (fun e=>h2.2 e.2)]) h
 ·rfl
def IsStep (x:Wd) (B b g cap:Nat) (w w':World):Prop:=(∃u,WdAt B b x w' g cap u)∧∀a:World,Ext a w→a.heap.size≤B→Ext a w'
def Vg4 (r:Bool) (x:Wd) (B b g cap:Nat) (w:World) (e:Ending) (w':World):Prop:=e= .returned (.bool r)∧IsStep x B b g cap w w'
theorem Vg1 {r:Bool} {x:Wd} {B b g cap:Nat} {u:Value} {w w':World} (h:WdAt B b x w g cap u) (hx:Ext w w'):Vg4 r x B b g cap w (.returned (.bool r)) w':=⟨rfl,⟨u,h.ext hx⟩,fun _ ha _=>ext_trans ha hx⟩
theorem Vf5 {lost:Bool} {x:Wd} {i:Nat} {c:Cl} (h:c.desk.out=[]):Vej x c=false∧Veh lost x i c=x:=by unfold Vej Veh;rw[h];exact⟨rfl,rfl⟩
theorem Vgy {lost:Bool} {x:Wd} {i:Nat} {c:Cl} {n:No} {r:List No} (h:c.desk.out=n::r) (k:¬Vfd x.log n=0):Vej x c=false∧Veh lost x i c={x with log:=Vg3 x.log n}:=by
 unfold Vej Veh;rw[h,Vhl k];exact⟨decide_eq_false k,if_neg k⟩
theorem Vh5 {x:Wd} {i:Nat} {c:Cl} {n:No} {r:List No} (hc:x.clients[i]?=some c) (h:c.desk.out=n::r) (k:Vfd x.log n=0):Vej x c=true∧Veh true x i c={x with log:=Vg3 x.log n}:=by
 obtain⟨h1,h2⟩:=List.getElem?_eq_some_iff.1 hc;have hs:x.clients.set i (Vkb true c)=x.clients:=by
  show x.clients.set i c=x.clients
  rw[←h2,List.set_getElem_self]
 unfold Vej Veh;rw[h];simp only[if_pos k,hs];exact⟨decide_eq_true k,trivial⟩
theorem Vf6 {x:Wd} {i:Nat} {c:Cl} {n:No} {r:List No} (h:c.desk.out=n::r) (k:Vfd x.log n=0):Vej x c=true∧Veh false x i c=⟨x.clients.set i {c with desk:={c.desk with out:=c.desk.out.tail}},Vg3 x.log n⟩:=by
 unfold Vej Veh;rw[h];refine⟨decide_eq_true k,?_⟩;simp only[if_pos k];unfold Vkb;rw[h];rfl
theorem Vhz {B b g cap i:Nat} {x:Wd} {c:Cl} {u:Value} {w:World} {lost:Bool} (h:WdAt B b x w g cap u) (hr:RightX x) (hc:x.clients[i]?=some c) (hB:B≤w.heap.size):
  Calls Tryz.prog 111 #[.pointer (some ⟨b,0,none⟩),.pointer (some ⟨g,i * 8,none⟩),.bool lost] w (Vg4 (Vej x c) (Veh lost x i c) B b g cap w):=by
 obtain⟨a1,n1,c1,a2,n2,c2,a3,n3,c3,a4,n4,c4,a5,n5,c5,ic,hd,⟨_,_,_,_,_,_,y6,_⟩,hfz⟩:=h.at_ hc;obtain⟨_,_,_,_,ho⟩:=Vea hd;have hbz:=h.lt;have hgz:=h.glt.2;cases hl:c.desk.out with
 |nil=>
  obtain rfl:n5=0:=by have:=ho.len.1;rw[hl] at this;exact this
  obtain⟨e1,e2⟩:=Vf5 (lost:=lost) (x:=x) (i:=i) hl;rw[e1,e2];have H:=hH h;clear h hr hc hd ho hl e1 e2 hfz;go_enter Tryz.func111,Tryz.ntmps111;go_wp2_with fail
  go_ret;exact Vg1 H.out Qac
 |cons n r=>
  rw[hl] at ho;obtain⟨nb,no,m1,l1,k1,m2,l2,k2,e5,hnb,en,hnc,_,hn,z0,z1,z2,z3⟩:=Vf1 ho;subst e5;have hck:Qa0 n=0:=(hr.desk i c hc).1.no n (by rw[hl];exact List.mem_cons_self ..);have hl3:=(checkLog_ok.1 hr.log).1;have HAD:=hH (fun(W:World) (hx:Ext w W)=>(Vji (Z:=fun k=>k=b∨k=g) (h.ext hx).c1 (h.ext hx).fz (.inl rfl) (fun k hk=>by rcases hk with rfl|rfl;exact(h.ext hx).lt;exact(h.ext hx).glt.2) (h.ext hx).log (h.ext hx).ub (Nat.le_trans hB hx.size) (gNo.ext hn hx) hck hl3).mono (fun e w' k=>(h.ext hx).log_ k));have H:=hH h;have HC:=hH hc;have HL:=hH hl;have t1:((n5:Int)==0)=false:=by rw[beq_eq_false_iff_ne];omega
  clear h hr hc hd ho hl hn hck hl3 ic;obtain⟨er,her⟩:∃e:Int,Vfd x.log n=e:=⟨_,rfl⟩;obtain⟨bo,hbo⟩:∃e:Bool,Vgj x.log n=e:=⟨_,rfl⟩;rw[her,hbo] at HAD;have HER:=hH her;clear hbo her;go_enter Tryz.func111,Tryz.ntmps111;go_upto_region 3 with fail
  go_cut [7,8] from 17 to 30 (fun s7 s8 wx=>s7= .bool bo∧s8= .int .i64 er∧∃u3,Hid (WdAt B b {x with log:=Vg3 x.log n} wx g cap u3)∧Hid (∀A:World,Ext A w→A.heap.size≤B→Ext A wx))
  case first=>
   go_region_law (first|(go_simp;go_at_call 98;go_must ((with_reducible refine(HAD.o _ Qac).mono ?_);rintro e w3 ⟨u3,rfl,HW3',hx3⟩;have HW3:=hH HW3';have HX3:=hH (fun(A:World) (h:Ext A w) (hB:A.heap.size≤B)=>hx3 A (ext_trans h Qac) hB);clear HW3' hx3)))
   all_goals (go_wp2_with fail;go_meet)
   all_goals exact⟨rfl,rfl,u3,hH (HW3.o.ext Qac),hH (fun A ha hA=>ext_trans (HX3.o A ha hA) Qac)⟩
  case rest=>
   obtain⟨rfl,rfl,u3,HW3,HX3⟩:=hcut;clear HAD y6 hfz z0 z1 z2 z3 hnb hnc hbz hgz;by_cases h0:er=0
   ·have t2:(er !=0)=false:=by simp[h0]
    have HE0:=hH (HER.o.trans h0);clear h0;cases lost with
    |true=>
     obtain⟨e1,e2⟩:=Vh5 HC.o HL.o HE0.o;have HEE:=hH (And.intro e1 e2);clear e1 e2;go_wp2_with fail
     go_ret;rw[HEE.o.1,HEE.o.2];exact⟨rfl,⟨u3,HW3.o.ext Qac⟩,fun A ha hA=>ext_trans (HX3.o A ha hA) Qac⟩
    |false=>
     obtain⟨e1,e2⟩:=Vf6 (i:=i) HL.o HE0.o;have HEE:=hH (And.intro e1 e2);clear e1 e2;obtain⟨q1,p1,s1,q2,p2,s2,q3,p3,s3,q4,p4,s4,q5,p5,s5,_,hd,⟨_,_,_,_,_,_,y6,_⟩,hfz⟩:=HW3.o.at_ (c:=c) HC.o;obtain⟨_,_,_,_,ho⟩:=Vea hd;have ho':=ho;rw[HL.o] at ho';obtain⟨vb,vo,_,_,_,_,_,_,e5,_,en',hnc,hcm,_⟩:=Vf1 ho';subst e5;have HO:=hH ho;have hp1:1≤p5:=oM;have HP1:=hH hp1;have hgv:=HW3.o.glt.2;have hf6:=hfz (i * 8+6);clear hd ho ho' hfz en en';by_cases hs5:s5=1
     ·subst hs5;obtain rfl:p5=1:=oM;go_wp2_with fail
      go_ret;rw[HEE.o.1,HEE.o.2];exact⟨rfl,⟨u3,(HW3.o.out_ HC.o (Vhk HO.o HP1.o rfl) (fun _ h _=>h)).ext Qac⟩,fun A ha hA=>ext_trans (ext_set (HX3.o A ha hA) (Nat.le_trans hA HW3.o.glt.1) _) Qac⟩
     ·go_wp2_with fail
      go_ret;rw[HEE.o.1,HEE.o.2];exact⟨rfl,⟨u3,(HW3.o.out_ HC.o (Vh9 HO.o HP1.o) (fun _ h _=>h)).ext Qac⟩,fun A ha hA=>ext_trans (ext_set (HX3.o A ha hA) (Nat.le_trans hA HW3.o.glt.1) _) Qac⟩
   ·have t2:(er !=0)=true:=by simpa using h0
    obtain⟨e1,e2⟩:=Vgy (lost:=lost) (i:=i) HL.o (by rw[HER.o];exact h0);have HEE:=hH (And.intro e1 e2);clear e1 e2 h0;go_wp2_with fail
    go_ret;rw[HEE.o.1,HEE.o.2];exact⟨rfl,⟨u3,HW3.o.ext Qac⟩,fun A ha hA=>ext_trans (HX3.o A ha hA) Qac⟩
theorem Vh4 {d:Dk} {l:List No} {k:Nat} (h:Vd9 d (l.take k)=none):Vd9 d l=none:=by
 have e:l=l.take k++l.drop k:=(List.take_append_drop k l).symm;rw[e];unfold Vd9 at h ⊢;rw[List.foldl_append,h];exact Vey _
theorem Vf4 {d:Dk} {n:No} (h:RightK d) (k:Qa0 n=0):Q3r d n=Q2d d n:=Q69 (checkK_ok.2 h) k
theorem Vj5 {d e:Dk} {l:List No} {k:Nat} {n:No} (h:Vd9 d (l.take k)=some e) (hn:l[k]?=some n) (he:RightK e) (hc:Qa0 n=0) (h0:Q2d e n=0):Vd9 d (l.take (k+1))=some (Q55 e n)∧RightK (Q55 e n):=by
 have e0:Q3r e n=0:=(Vf4 he hc).trans h0;refine⟨?_,Vim he hc h0⟩;rw[Vfs hn,h]
 show(if Q3r e n=0 then some (Van e n) else none)=_
 rw[if_pos e0,Vab e0]
theorem Vj6 {d e:Dk} {l:List No} {k:Nat} {n:No} (h:Vd9 d (l.take k)=some e) (hn:l[k]?=some n) (he:RightK e) (hc:Qa0 n=0) (h0:¬Q2d e n=0):Vd9 d l=none:=by
 refine Vh4 (k:=k+1) ?_;rw[Vfs hn,h]
 show(if Q3r e n=0 then some (Van e n) else none)=none
 rw[if_neg (by rw[Vf4 he hc];exact h0)]
theorem Vi5 {x:Wd} {i:Nat} {c:Cl} {m:Int} (h:Vd9 c.desk (Vem x c m)=none):Ved m x i c=x∧(Vd9 c.desk (Vem x c m)).isSome=false:=by unfold Ved;rw[h];exact⟨rfl,rfl⟩
theorem Vh3 {x:Wd} {i:Nat} {c:Cl} {m:Int} {d:Dk} (h:Vd9 c.desk (Vem x c m)=some d):Ved m x i c={x with clients:=x.clients.set i ⟨d,c.cursor+((Vem x c m).length:Int)⟩}∧(Vd9 c.desk (Vem x c m)).isSome=true:=by unfold Ved;rw[h];exact⟨rfl,rfl⟩
theorem WdAt.both_ {B b g cap i:Nat} {x:Wd} {w:World} {u:Value} {c:Cl} {d:Dk} {k:Int} {F:Nat→Prop} {va vg vs vw vo:Value} (h:WdAt B b x w g cap u) (hi:x.clients[i]?=some c) (hd:RDk F w [.int .i64 d.site,va,vg,vs,vw,.int .i64 d.clock,vo] d) (hF:∀k,F k→k<w.heap.size→(B≤k∧k≠b∧some k≠u.ownBlock)∧k≠g) (hk:I64 k):
  WdAt B b {x with clients:=x.clients.set i ⟨d,k⟩} ((Vgz w g (i * 8+0) [.int .i64 d.site,va,vg,vs,vw,.int .i64 d.clock,vo]).setCell ⟨g,i * 8+7,none⟩ (.int .i64 k)) g cap u:=by
 have h1:=h.desk_ hi hd hF;have hl:i<x.clients.length:=(List.getElem?_eq_some_iff.1 hi).1;have h2:=h1.cursor_ (i:=i) (c:={c with desk:=d}) (List.getElem?_set_self hl) hk;have e:(x.clients.set i {c with desk:=d}).set i ⟨d,k⟩=x.clients.set i ⟨d,k⟩:=List.set_set ..;have h3:WdAt B b {x with clients:=(x.clients.set i {c with desk:=d}).set i ⟨d,k⟩} _ g cap u:=h2;rw[e] at h3;exact h3
theorem Vj0 {B b g cap:Nat} {x:Wd} {w W:World} {u:Value} (h:WdAt B b x w g cap u) (hB:B≤w.heap.size) (hW:w.heap.size≤W.heap.size) {k:Nat} (hk:W.heap.size≤k):(B≤k∧k≠b∧some k≠u.ownBlock)∧k≠g:=by
 have h1:=h.lt;have h2:=h.glt.2;exact⟨⟨oM,oM,fun e=>by have:=(Qak h.log k e.symm).2;omega⟩,oM⟩
theorem Vgw {B b g cap i:Nat} {x:Wd} {c:Cl} {u:Value} {w:World} {m:Int} (h:WdAt B b x w g cap u) (hr:RightX x) (hc:x.clients[i]?=some c) (hB:B≤w.heap.size) (hm:0≤m∧m≤300):
  Calls Tryz.prog 112 #[.pointer (some ⟨b,0,none⟩),.pointer (some ⟨g,i * 8,none⟩),.int .i64 m] w (Vg4 (Vd9 c.desk (Vem x c m)).isSome (Ved m x i c) B b g cap w):=by
 obtain⟨a1,n1,c1,a2,n2,c2,a3,n3,c3,a4,n4,c4,a5,n5,c5,ic,hd,⟨y0,y1,y2,y3,y4,y5,y6,y7⟩,hfz⟩:=h.at_ hc;have H:=hH h;have HC:=hH hc;have HR:=hH hr;have HBW:=hH hB;have hbz:=h.lt;have hgz:=h.glt.2;have e1:=h.c1;have hrd:=(hr.desk i c hc).1;have hcu0:=(hr.desk i c hc).2.2.1;have hcu1:=(hr.desk i c hc).2.2.2;have HRD:=hH hrd;have HLC:=hH (checkLog_ok.1 hr.log);have hl3:x.log.length≤300:=(checkLog_ok.1 hr.log).1;have HLR:=hH (fun(W:World) (hx:Ext w W)=>h.read.2.ext gNo hx);obtain⟨ua,un,uc,rfl⟩:=h.read.2.slice;obtain⟨rfl,hn1,hn2⟩:=h.read.2.len;obtain⟨p,hp⟩:∃p:Nat,c.cursor=(p:Int):=⟨c.cursor.toNat,oM⟩;obtain⟨j,rfl⟩:∃j:Nat,m=(j:Int):=⟨m.toNat,oM⟩;have hp3:p≤x.log.length:=oM;have hj3:j≤300:=oM;rw[hp] at y7;obtain⟨k,hk⟩:∃k:Nat,k=min x.log.length (p+j):=⟨_,rfl⟩;have hik:p≤k:=oM;have hkl:k≤x.log.length:=oM;have hpl:Vem x c (j:Int)=(x.log.drop p).take j:=by unfold Vem;rw[hp];rfl
 have HPL:=hH hpl;have HSB:=hH (fun(W:World) (hx:Ext w W)=>(show RSl RNo 4 (fun k=>B≤k) W _ (Vem x c (j:Int)) from by have:=Vac (HLR.o W hx) hik hkl;rw[Vi4 hik hk] at this;rw[hpl];exact this));have HPI:=hH (show∀n∈Vem x c (j:Int),Qa0 n=0 from fun n hn=>by rw[hpl] at hn;obtain⟨t,ht⟩:=List.getElem?_of_mem (List.mem_of_mem_drop (List.mem_of_mem_take hn));exact(HLC.o.2 t n ht).1);have hlen:(Vem x c (j:Int)).length=k-p:=by rw[hpl,List.length_take,List.length_drop];omega
 have HLEN:=hH hlen;have HCP:=hH hp;have HOW:=hH (fun(W:World) (hx:Ext w W)=>Qdr (gDk.ext hd hx) hrd.state (by rw[(checkI_iff.1 hrd.seen).1];omega) (Nat.le_trans hrd.lw oM) (Nat.le_trans hrd.lo oM) hrd.nw hrd.no);have HFZ:=hH hfz;generalize hgl:Vem x c (j:Int)=l at *;have HGL:=hH hgl;have HW:=hH (Vjd (i:=p) (j:=j) oM oM);clear h hr hc hd hfz hrd hcu0 hcu1 ic hm hpl hgl hp;go_enter Tryz.func112,Tryz.ntmps112;go_upto_region 1 with fail
 refine Qad (fun V eV=> ?_);have HXV:=hH (xE w eV);have v1:=rL eV ⟨b,1,none⟩ (.slice ua x.log.length uc);have vg0:=rL eV ⟨g,i * 8,none⟩ (.int .i64 c.desk.site);have vg1:=rL eV ⟨g,i * 8+1,none⟩ (.slice a1 n1 c1);have vg2:=rL eV ⟨g,i * 8+2,none⟩ (.slice a2 n2 c2);have vg3:=rL eV ⟨g,i * 8+3,none⟩ (.slice a3 n3 c3);have vg4:=rL eV ⟨g,i * 8+4,none⟩ (.slice a4 n4 c4);have vg5:=rL eV ⟨g,i * 8+5,none⟩ (.int .i64 c.desk.clock);have vg6:=rL eV ⟨g,i * 8+6,none⟩ (.slice a5 n5 c5);have v7:=rL eV ⟨g,i * 8+7,none⟩ (.int .i64 (p:Nat));have hbv:b<V.heap.size:=World.block_lt_of_cell? _ _ v1;have hgv:g<V.heap.size:=World.block_lt_of_cell? _ _ v7;clear eV e1 y0 y1 y2 y3 y4 y5 y6 y7;go_cut [7] from 11 to 35 (fun s wx=>∃(a:Option Addr) (cp:Nat),s= .slice a l.length cp∧Hid (RSl RNo 4 (fun k=>B≤k) wx (.slice a l.length cp) l)∧Hid (Ext V wx))
 case first=>
  have hmn:((min (x.log.length:Int) ((p:Int)+(j:Int))).toNat-p)=l.length:=by rw[HLEN.o];omega
  have HMN:=hH hmn;have HS1:=hH (fun(W:World) (hx:Ext V W)=>HSB.o W (ext_trans HXV.o hx));clear hmn H HC HR HBW HRD HLC HLR HPI HOW HFZ vg0 vg1 vg2 vg3 vg4 vg5 vg6 HPL HCP HGL HSB hbz hgz;have hp300:p≤300:=Nat.le_trans hp3 hl3;clear HW;by_cases hci:uc=p
  ·have HS2:=hH (fun(W:World) (hx:Ext V W)=>(show RSl RNo 4 (fun k=>B≤k) W (.slice ua l.length 0) l from by have h:=HS1.o W hx;rw[if_pos hci,←HLEN.o,hci,Nat.sub_self] at h;exact h));clear HS1;go_quiet (fail)
   go_wp2_with fail
   go_meet
   exact⟨ua,0,congrArg (fun z=>Value.slice ua z 0) HMN.o,hH (HS2.o _ Qac),hH Qac⟩
  ·have HS2:=hH (fun(W:World) (hx:Ext V W)=>(show RSl RNo 4 (fun k=>B≤k) W (.slice (ua.map (fun x=>x.add (p * 4))) l.length (uc-p)) l from by have h:=HS1.o W hx;rw[if_neg hci,←HLEN.o] at h;exact h));clear HS1;go_quiet (fail)
   go_wp2_with fail
   go_meet
   exact⟨ua.map (fun x=>x.add (p * 4)),uc-p,congrArg (fun z=>Value.slice (ua.map (fun x=>x.add (p * 4))) z (uc-p)) HMN.o,hH (HS2.o _ Qac),hH Qac⟩
 case rest=>
  obtain⟨ra,rc,rfl,HRL,HXC⟩:=hcut;have hll:l.length≤300:=by rw[HLEN.o];omega
  have HX0:=hH (ext_trans HXV.o HXC.o);have z0:=(HXC.o.cells _ (i * 8) hgv).trans vg0;have z1:=(HXC.o.cells _ (i * 8+1) hgv).trans vg1;have z2:=(HXC.o.cells _ (i * 8+2) hgv).trans vg2;have z3:=(HXC.o.cells _ (i * 8+3) hgv).trans vg3;have z4:=(HXC.o.cells _ (i * 8+4) hgv).trans vg4;have z5:=(HXC.o.cells _ (i * 8+5) hgv).trans vg5;have z6:=(HXC.o.cells _ (i * 8+6) hgv).trans vg6;have z7:=(HXC.o.cells _ (i * 8+7) hgv).trans v7;have hbc:b<wc.heap.size:=Nat.lt_of_lt_of_le hbv HXC.o.size;have hgc:g<wc.heap.size:=Nat.lt_of_lt_of_le hgv HXC.o.size;obtain⟨W4,eW4⟩:∃W:World,W=wc:=⟨wc,rfl⟩;subst eW4;have HO4:=hH (fun(W:World) (hx:Ext W4 W)=>HOW.o W (ext_trans HX0.o hx));have HRT:=hH (HRL.o.more gNo (G:=fun j=>j<W4.heap.size) (fun _ _ h=>h));have HZ:=hH (And.intro z0 (And.intro z1 (And.intro z2 (And.intro z3 (And.intro z4 (And.intro z5 (And.intro z6 z7)))))));clear v1 vg0 vg1 vg2 vg3 vg4 vg5 vg6 v7 HOW HLR HSB hn1 hn2 z7 hk hlen;have HOW:=HO4;clear HO4;go_upto_region 3 with(first|(go_at_call 86;go_must ((with_reducible refine(HOW.o _ Qac).mono ?_);rintro e w5 ⟨va,vg,vs,vw,vo,rfl,hown,hx5⟩;obtain⟨p1,q1,r1,rfl⟩:=(hown (fun _=>False) (fun _ h=>h.elim)).atoms.slice;obtain⟨p2,q2,r2,rfl⟩:=(hown (fun _=>False) (fun _ h=>h.elim)).gone.slice;obtain⟨p3,q3,r3,rfl⟩:=Qab (hown (fun _=>False) (fun _ h=>h.elim)).seen;obtain⟨p4,q4,r4,rfl⟩:=Qab (hown (fun _=>False) (fun _ h=>h.elim)).waits;obtain⟨p5,q5,r5,rfl⟩:=Qab (hown (fun _=>False) (fun _ h=>h.elim)).out;have HOWN:=hH hown;have HX5:=xY W4 hx5;have hs5:W4.heap.size≤w5.heap.size:=hx5.size;clear hown hx5)))
  refine Qad (fun W6 eW6=> ?_);have HX65:=hH (xE w5 eW6);have HX6:=hH (ext_trans HX5.o HX65.o);have HBX:=hH (show OwnBx (fun k=>k=w5.heap.size) W4.heap.size w5.heap.size c.desk W6 (.slice p1 q1 r1) (.slice p2 q2 r2) (.slice p3 q3 r3) (.slice p4 q4 r4) (.slice p5 q5 r5) from by
   refine⟨(HOWN.o _ (fun k hk=>Nat.le_of_eq hk.symm)).ext HX65.o,rfl,fun k hk=>by rw[hk,eW6];simp,fun i v hv=> ?_,fun o=>by rw[eW6];go_simp,hs5⟩;rw[eW6]
   match i,hv with
   |0,hv=>injection hv with hv;subst hv;go_simp
   |1,hv=>injection hv with hv;subst hv;go_simp
   |2,hv=>injection hv with hv;subst hv;go_simp
   |3,hv=>injection hv with hv;subst hv;go_simp
   |4,hv=>injection hv with hv;subst hv;go_simp
   |5,hv=>injection hv with hv;subst hv;go_simp
   |6,hv=>injection hv with hv;subst hv;go_simp
   |i+7,hv=>simp at hv)
  obtain⟨bx,hbx⟩:∃q,w5.heap.size=q:=⟨_,rfl⟩;rw[hbx] at HBX;rw[hbx];clear eW6 HOWN hbx z0 z1 z2 z3 z4 z5 z6;go_wp2_with fail
  go_loopw [43] (fun iv wr=>∃(k:Nat) (e:Dk) (va vg vs vw vo:Value),k≤l.length∧iv= .int .i64 k∧Hid (Vd9 c.desk (l.take k)=some e∧RightK e)∧Hid (OwnBx (fun k=>k=bx) W4.heap.size bx e wr va vg vs vw vo)∧Hid (Ext W4 wr)) (fun iv _=>l.length-(intOf iv).toNat)
  case atStart=>exact⟨0,c.desk,_,_,_,_,_,Nat.zero_le _,rfl,hH ⟨rfl,HRD.o⟩,HBX,HX6⟩
  case round=>
   clear HBX HX6;obtain⟨k',e,va,vg,vs,vw,vo,hk',rfl,HE,HB,HX⟩:=hrel;by_cases hlt:k'<l.length
   ·obtain⟨nb,no,n,m1,l1,k1,m2,l2,k2,ea,hnb,en,hn,z0,z1,z2,z3⟩:=Qdj HRT.o hlt;have hck:=HPI.o n (List.mem_of_getElem? en);obtain⟨er,her⟩:∃q:Int,Q2d e n=q:=⟨_,rfl⟩;have r0:=(HX.o.cells _ _ hnb).trans z0;have r1:=(HX.o.cells _ _ hnb).trans z1;have r2:=(HX.o.cells _ _ hnb).trans z2;have r3:=(HX.o.cells _ _ hnb).trans z3;have hnr:nb<wr.heap.size:=Nat.lt_of_lt_of_le hnb HX.o.size;subst ea;clear z0 z1 z2 z3;go_upto_region 6 with fail
    refine Qad (fun V7 eV7=> ?_);have HV7:=hH (xE wr eV7);have HXV:=hH (ext_trans HX.o HV7.o);have HGT:=hH (show Calls Tryz.prog 87 #[.pointer (some ⟨bx,0,none⟩),.agg #[.int .i64 n.site,.int .i64 n.number,.slice m1 l1 k1,.slice m2 l2 k2]] V7 (Vat (fun k=>k=bx) W4.heap.size bx er (Q55 e n) V7) from by
     have h:=Q9m (HB.o.ext HV7.o) HE.o.2 (gNo.ext hn HXV.o) hck;rw[her] at h;exact h)
    obtain⟨q0,q1,q2,q3⟩:=rR4 eV7 wr.heap.size (.int .i64 n.site) (.int .i64 n.number) (.slice m1 l1 k1) (.slice m2 l2 k2);by_cases h0:er=0
    ·have t9:(er !=0)=false:=by simp[h0]
     have HE0:=hH h0;have HNX:=hH (Vj5 HE.o.1 en HE.o.2 hck (her.trans h0));clear eV7 h0 her r0 r1 r2 r3 hn en hck hnb hnr HB;go_wp2_with (first|(go_at_call 87;go_must ((with_reducible refine(HGT.o).mono ?_);rintro e w7 ⟨rfl,hg7,hx7⟩;obtain⟨va7,vg7,vs7,vw7,vo7,hb77⟩:=hg7 HE0.o;have HB7:=hH hb77;have E74:=hH (hx7 W4 HXV.o (Nat.le_refl _));clear hg7 hx7 hb77)))
     go_roundw
     case rel=>exact⟨k'+1,_,va7,vg7,vs7,vw7,vo7,hlt,by go_num,HNX,hH (HB7.o.ext Qac),hH (ext_trans E74.out Qac)⟩
     case measure=>simp[intOf];omega
    ·have t9:(er !=0)=true:=by simpa using h0
     have HNO:=hH (Vj6 HE.o.1 en HE.o.2 hck (by rw[her];exact h0));clear eV7 h0 her r0 r1 r2 r3 hn en hck hnb hnr HB;go_wp2_with (first|(go_at_call 87;go_must ((with_reducible refine(HGT.o).mono ?_);rintro e w7 ⟨rfl,hg7,hx7⟩;have E74:=hH (hx7 W4 HXV.o (Nat.le_refl _));clear hg7 hx7)))
     go_ret;have hno:Vd9 c.desk (Vem x c (j:Int))=none:=by rw[HGL.o];exact HNO.o
     rw[(Vi5 (i:=i) hno).1,HNO.o];exact Vg1 (r:=false) H.out (ext_trans HX0.o (ext_trans E74.out Qac))
   ·obtain rfl:k'=l.length:=oM;have hyes:Vd9 c.desk (Vem x c (j:Int))=some e:=by rw[HGL.o];have h:=HE.o.1;rwa [List.take_of_length_le (Nat.le_refl _)] at h
    have hye:=(Vh3 (i:=i) hyes).1;rw[HGL.o,HCP.o] at hye;have HYE:=hH hye;have HYL:=hH (show Vd9 c.desk l=some e from HGL.o▸hyes);have hb7:=HB.o;obtain⟨s1,j1,l1,rfl⟩:=hb7.desk.atoms.slice;obtain⟨s2,j2,l2,rfl⟩:=hb7.desk.gone.slice;obtain⟨s3,j3,l3,rfl⟩:=Qab hb7.desk.seen;obtain⟨s4,j4,l4,rfl⟩:=Qab hb7.desk.waits;obtain⟨s5,j5,l5,rfl⟩:=Qab hb7.desk.out;have t_0:=hb7.cells 0 _ rfl;have t_1:=hb7.cells 1 _ rfl;have t_2:=hb7.cells 2 _ rfl;have t_3:=hb7.cells 3 _ rfl;have t_4:=hb7.cells 4 _ rfl;have t_5:=hb7.cells 5 _ rfl;have t_6:=hb7.cells 6 _ rfl;have HDR:=hH hb7.desk.read;have hbr:=hb7.lt;obtain⟨z0,z1,z2,z3,z4,z5,z6,z7⟩:=HZ.o;have zr_0:=(HX.o.cells _ (i * 8) hgc).trans z0;have zr_1:=(HX.o.cells _ (i * 8+1) hgc).trans z1;have zr_2:=(HX.o.cells _ (i * 8+2) hgc).trans z2;have zr_3:=(HX.o.cells _ (i * 8+3) hgc).trans z3;have zr_4:=(HX.o.cells _ (i * 8+4) hgc).trans z4;have zr_5:=(HX.o.cells _ (i * 8+5) hgc).trans z5;have zr_6:=(HX.o.cells _ (i * 8+6) hgc).trans z6;have zr_7:=(HX.o.cells _ (i * 8+7) hgc).trans z7;have hgr:g<wr.heap.size:=Nat.lt_of_lt_of_le hgc HX.o.size;have HXW:=hH (ext_trans HX0.o HX.o);have fr_0:=(HXW.o.frz g (i * 8) hgz).trans (HFZ.o (i * 8));have fr_1:=(HXW.o.frz g (i * 8+1) hgz).trans (HFZ.o (i * 8+1));have fr_2:=(HXW.o.frz g (i * 8+2) hgz).trans (HFZ.o (i * 8+2));have fr_3:=(HXW.o.frz g (i * 8+3) hgz).trans (HFZ.o (i * 8+3));have fr_4:=(HXW.o.frz g (i * 8+4) hgz).trans (HFZ.o (i * 8+4));have fr_5:=(HXW.o.frz g (i * 8+5) hgz).trans (HFZ.o (i * 8+5));have fr_6:=(HXW.o.frz g (i * 8+6) hgz).trans (HFZ.o (i * 8+6));have fr_7:=(HXW.o.frz g (i * 8+7) hgz).trans (HFZ.o (i * 8+7));have HIK:=hH (Qal (show -100000≤(p:Int)+(l.length:Int) by omega) (show(p:Int)+(l.length:Int)≤100000 by omega));have HFT:=hH (show∀k,W4.heap.size≤k→(B≤k∧k≠b∧some k≠(Value.slice ua x.log.length uc).ownBlock)∧k≠g from fun k hk=>Vj0 H.out HBW.o HX0.o.size hk);clear hyes hye hb7 z0 z1 z2 z3 z4 z5 z6 z7;go_wp2_with fail
    go_ret;rw[HYE.o,HYL.o];exact⟨rfl,⟨_,((H.out.ext HXW.o).both_ HC.o HDR.o (fun k hk _=>HFT.o k hk) HIK.o)⟩,fun A ha hA=>ext_set (Vez (Nat.le_trans hA H.out.glt.1) [.int .i64 e.site,.slice s1 j1 l1,.slice s2 j2 l2,.slice s3 j3 l3,.slice s4 j4 l4,.int .i64 e.clock,.slice s5 j5 l5] (i * 8+0) wr (ext_trans ha HXW.o)) (p:=⟨g,i * 8+7,none⟩) (Nat.le_trans hA H.out.glt.1) (.int .i64 ((p:Int)+(l.length:Int)))⟩
end Go.Proofs.YtgnccjojfebkeaaGreat
