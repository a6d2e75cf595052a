/- Desks in boxes of a frame. -/
import Derived.Test.YtgnccjojfebkeaaGreatQeaca64021a
import Derived.Test.YtgnccjojfebkeaaGreatQ32d737f019
import Derived.Test.YtgnccjojfebkeaaGreatQ1fe29ed50b
import Derived.Test.YtgnccjojfebkeaaGreatQ982015a309
set_option linter.unusedVariables false
set_option linter.unusedSimpArgs false
set_option maxRecDepth 100000
namespace Go.Proofs.YtgnccjojfebkeaaGreat
open Go Go.RowKit Go.BigFrame Cp
def Vfy (d:Dk) (er:Int) (w:World) (e:Ending) (w':World):Prop:=
 ∃(a1:Option Addr) (n1 c1:Nat) (a2:Option Addr) (n2 c2:Nat) (a3:Option Addr) (n3 c3:Nat) (a4:Option Addr) (n4 c4:Nat) (a5:Option Addr) (n5 c5:Nat),e= .returned (.tuple #[.agg #[.int .i64 d.site,.slice a1 n1 c1,.slice a2 n2 c2,.slice a3 n3 c3,.slice a4 n4 c4,.int .i64 d.clock,.slice a5 n5 c5],.int .i64 er])∧RDk (fun k=>w.heap.size≤k) w' [.int .i64 d.site,.slice a1 n1 c1,.slice a2 n2 c2,.slice a3 n3 c3,.slice a4 n4 c4,.int .i64 d.clock,.slice a5 n5 c5] d∧Ext w w'
theorem Vfh {d:Dk} {er:Int} {w:World} {e:Ending} {w':World} (h:Qm5 d er w e w'):Vfy d er w e w':=by
 obtain⟨va,vg,vs,vw,vo,rfl,hd,hx⟩:=h;have hd':=hd;obtain⟨_,_,_,_,_,he,_,h1,h2,h3,h4,_,h5'⟩:=hd;injection he with _ he
 injection he with e1 he
 injection he with e2 he
 injection he with e3 he
 injection he with e4 he
 injection he with _ he
 injection he with e5 _
 subst e1 e2 e3 e4 e5;obtain⟨a1,n1,c1,rfl⟩:=h1.slice;obtain⟨a2,n2,c2,rfl⟩:=h2.slice;obtain⟨a3,n3,c3,rfl⟩:=h3.slice;obtain⟨a4,n4,c4,rfl⟩:=h4.slice;obtain⟨a5,n5,c5,rfl⟩:=h5'.slice;exact⟨_,_,_,_,_,_,_,_,_,_,_,_,_,_,_,rfl,hd',hx⟩
theorem Vfc {F:Nat→Prop} {w:World} {s c:Int} {va vg vs vw vo:Value} {d:Dk} (h:RDk F w [.int .i64 s,va,vg,vs,vw,.int .i64 c,vo] d):
  RSl RAt 3 F w va d.state.1∧RSl RMk 2 F w vg d.state.2∧RSl Qe1 1 F w vs d.seen∧RSl RNo 4 F w vw d.waits∧RSl RNo 4 F w vo d.out:=by
 obtain⟨_,_,_,_,_,he,_,h1,h2,h3,h4,_,h5⟩:=h;injection he with _ he
 injection he with e1 he
 injection he with e2 he
 injection he with e3 he
 injection he with e4 he
 injection he with _ he
 injection he with e5 _
 subst e1 e2 e3 e4 e5;exact⟨h1,h2,h3,h4,h5⟩
structure DkAt (F:Nat→Prop) (b:Nat) (d:Dk) (w:World) (va vg vs vw vo:Value):Prop where
 c0:w.cell? ⟨b,0,none⟩=some (.int .i64 d.site)
 c1:w.cell? ⟨b,1,none⟩=some (va)
 c2:w.cell? ⟨b,2,none⟩=some (vg)
 c3:w.cell? ⟨b,3,none⟩=some (vs)
 c4:w.cell? ⟨b,4,none⟩=some (vw)
 c5:w.cell? ⟨b,5,none⟩=some (.int .i64 d.clock)
 c6:w.cell? ⟨b,6,none⟩=some (vo)
 fz:∀o,w.frozen? ⟨b,o,none⟩=false
 rd:RDk F w [.int .i64 d.site,va,vg,vs,vw,.int .i64 d.clock,vo] d
section
variable {F G:Nat→Prop} {b:Nat} {d:Dk} {w w':World} {va vg vs vw vo:Value}
theorem DkAt.lt (h:DkAt F b d w va vg vs vw vo):b<w.heap.size:=World.block_lt_of_cell? _ _ h.c0
theorem DkAt.ext (h:DkAt F b d w va vg vs vw vo) (hx:Ext w w'):DkAt F b d w' va vg vs vw vo:=
 ⟨(hx.cells _ _ h.lt).trans h.c0,(hx.cells _ _ h.lt).trans h.c1,(hx.cells _ _ h.lt).trans h.c2,(hx.cells _ _ h.lt).trans h.c3,(hx.cells _ _ h.lt).trans h.c4,(hx.cells _ _ h.lt).trans h.c5,(hx.cells _ _ h.lt).trans h.c6,fun o=>(hx.frz _ _ h.lt).trans (h.fz o),gDk.ext h.rd hx⟩
theorem DkAt.read (h:DkAt F b d w va vg vs vw vo):RDk (fun _=>True) w [.int .i64 d.site,va,vg,vs,vw,.int .i64 d.clock,vo] d:=gDk.more (fun _ _ _=>trivial) h.rd
theorem DkAt.seven (h:DkAt F b d w va vg vs vw vo):w.cell? ⟨b,0,none⟩=some (.int .i64 d.site)∧w.cell? ⟨b,1,none⟩=some (va)∧w.cell? ⟨b,2,none⟩=some (vg)∧w.cell? ⟨b,3,none⟩=some (vs)∧w.cell? ⟨b,4,none⟩=some (vw)∧w.cell? ⟨b,5,none⟩=some (.int .i64 d.clock)∧w.cell? ⟨b,6,none⟩=some (vo):=⟨h.c0,h.c1,h.c2,h.c3,h.c4,h.c5,h.c6⟩
theorem DkAt.fz7 (h:DkAt F b d w va vg vs vw vo):w.frozen? ⟨b,0,none⟩=false∧w.frozen? ⟨b,1,none⟩=false∧w.frozen? ⟨b,2,none⟩=false∧w.frozen? ⟨b,3,none⟩=false∧w.frozen? ⟨b,4,none⟩=false∧w.frozen? ⟨b,5,none⟩=false∧w.frozen? ⟨b,6,none⟩=false:=⟨h.fz 0,h.fz 1,h.fz 2,h.fz 3,h.fz 4,h.fz 5,h.fz 6⟩
theorem DkAt.parts (h:DkAt F b d w va vg vs vw vo):RSl RAt 3 (fun _=>True) w va d.state.1∧RSl RMk 2 (fun _=>True) w vg d.state.2∧RSl Qe1 1 (fun _=>True) w vs d.seen∧RSl RNo 4 (fun _=>True) w vw d.waits∧RSl RNo 4 (fun _=>True) w vo d.out:=Vfc h.read
end
def BoxOk (b:Nat) (w:World):Prop:=(∀i,i<7→∃v,w.cell? ⟨b,i,none⟩=some v)∧∀o,w.frozen? ⟨b,o,none⟩=false
section
variable {F G:Nat→Prop} {b:Nat} {d:Dk} {w w':World} {va vg vs vw vo:Value}
theorem DkAt.ok (h:DkAt F b d w va vg vs vw vo):BoxOk b w:=⟨fun i hi=>by
 match i,hi with
 |0,_=>exact⟨_,h.c0⟩
 |1,_=>exact⟨_,h.c1⟩
 |2,_=>exact⟨_,h.c2⟩
 |3,_=>exact⟨_,h.c3⟩
 |4,_=>exact⟨_,h.c4⟩
 |5,_=>exact⟨_,h.c5⟩
 |6,_=>exact⟨_,h.c6⟩
 |i+7,h=>omega,h.fz⟩
theorem BoxOk.oth (h:BoxOk b w) {a:Addr} (hb:a.block≠b) (u:Value):BoxOk b (w.setCell a u):=
 ⟨fun i hi=>by obtain⟨v,e⟩:=h.1 i hi;exact⟨v,(World.cell?_setCell_other _ _ _ _ (fun e=>hb (by rw[e]))).trans e⟩,fun o=>by have:=h.2 o;go_simp⟩
theorem DkAt.oth (h:DkAt F b d w va vg vs vw vo) {a:Addr} (hb:a.block≠b) (hF:¬F a.block) (u:Value):DkAt F b d (w.setCell a u) va vg vs vw vo:=
 have k:∀{o v},w.cell? ⟨b,o,none⟩=some v→(w.setCell a u).cell? ⟨b,o,none⟩=some v:=fun e=>(World.cell?_setCell_other _ _ _ _ (fun e=>hb (by rw[e]))).trans e
 ⟨k h.c0,k h.c1,k h.c2,k h.c3,k h.c4,k h.c5,k h.c6,fun o=>by have:=h.fz o;go_simp,gDk.keep (Qae Qag (fun _=>hF) u) h.rd⟩
theorem DkAt.more (h:DkAt F b d w va vg vs vw vo) (hg:∀k,F k→G k):DkAt G b d w va vg vs vw vo:=⟨h.c0,h.c1,h.c2,h.c3,h.c4,h.c5,h.c6,h.fz,gDk.more (fun k hk _=>hg k hk) h.rd⟩
theorem Veo {cs:List Value} (h:RDk F w cs d) {a:Addr} (hF:¬F a.block) (u:Value):RDk F (w.setCell a u) cs d:=gDk.keep (Qae Qag (fun _=>hF) u) h
theorem BoxOk.put (h:BoxOk b w) (r:RDk F w [.int .i64 d.site,va,vg,vs,vw,.int .i64 d.clock,vo] d) (hF:¬F b):DkAt F b d ((((((((w.setCell ⟨b,0,none⟩ (.int .i64 d.site)).setCell ⟨b,1,none⟩ (va)).setCell ⟨b,2,none⟩ (vg)).setCell ⟨b,3,none⟩ (vs)).setCell ⟨b,4,none⟩ (vw)).setCell ⟨b,5,none⟩ (.int .i64 d.clock)).setCell ⟨b,6,none⟩ (vo))) va vg vs vw vo:=by
 obtain⟨hc,hf⟩:=h;obtain⟨u0,k0⟩:=hc 0 oM;obtain⟨u1,k1⟩:=hc 1 oM;obtain⟨u2,k2⟩:=hc 2 oM;obtain⟨u3,k3⟩:=hc 3 oM;obtain⟨u4,k4⟩:=hc 4 oM;obtain⟨u5,k5⟩:=hc 5 oM;obtain⟨u6,k6⟩:=hc 6 oM;have f0:=hf 0;have f1:=hf 1;have f2:=hf 2;have f3:=hf 3;have f4:=hf 4;have f5:=hf 5;have f6:=hf 6;refine⟨gS,gS,gS,gS,gS,gS,gS,fun o=>by have:=hf o;go_simp,?_⟩;repeat(refine Veo ?_ hF _)
 exact r
end
theorem Veh {T G:Prop} (h:T) (k:T→G):G:=k h
theorem Vfu {v w:World} {b:Nat} (h:Ext v w) (z:b<v.heap.size) (e0:v.cell? ⟨b,0,none⟩=some (.int .i64 0)) (e1:v.cell? ⟨b,1,none⟩=some (.slice none 0 0)) (e2:v.cell? ⟨b,2,none⟩=some (.slice none 0 0)) (e3:v.cell? ⟨b,3,none⟩=some (.slice none 0 0)) (e4:v.cell? ⟨b,4,none⟩=some (.slice none 0 0)) (e5:v.cell? ⟨b,5,none⟩=some (.int .i64 0)) (e6:v.cell? ⟨b,6,none⟩=some (.slice none 0 0)) (f:∀o,v.frozen? ⟨b,o,none⟩=false):
  (w.cell? ⟨b,0,none⟩=some (.int .i64 0)∧w.cell? ⟨b,1,none⟩=some (.slice none 0 0)∧w.cell? ⟨b,2,none⟩=some (.slice none 0 0)∧w.cell? ⟨b,3,none⟩=some (.slice none 0 0)∧w.cell? ⟨b,4,none⟩=some (.slice none 0 0)∧w.cell? ⟨b,5,none⟩=some (.int .i64 0)∧w.cell? ⟨b,6,none⟩=some (.slice none 0 0))∧(w.frozen? ⟨b,0,none⟩=false∧w.frozen? ⟨b,1,none⟩=false∧w.frozen? ⟨b,2,none⟩=false∧w.frozen? ⟨b,3,none⟩=false∧w.frozen? ⟨b,4,none⟩=false∧w.frozen? ⟨b,5,none⟩=false∧w.frozen? ⟨b,6,none⟩=false)∧(∀o,w.frozen? ⟨b,o,none⟩=false)∧b<w.heap.size:=
 ⟨⟨(h.cells b 0 z).trans e0,(h.cells b 1 z).trans e1,(h.cells b 2 z).trans e2,(h.cells b 3 z).trans e3,(h.cells b 4 z).trans e4,(h.cells b 5 z).trans e5,(h.cells b 6 z).trans e6⟩,⟨(h.frz b 0 z).trans (f 0),(h.frz b 1 z).trans (f 1),(h.frz b 2 z).trans (f 2),(h.frz b 3 z).trans (f 3),(h.frz b 4 z).trans (f 4),(h.frz b 5 z).trans (f 5),(h.frz b 6 z).trans (f 6)⟩,fun o=>(h.frz b o z).trans (f o),Nat.lt_of_lt_of_le z h.size⟩
end Go.Proofs.YtgnccjojfebkeaaGreat
