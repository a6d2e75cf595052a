/- Who writes a note, as it lies; deeds done and kept. -/
import Derived.Test.YtgnccjojfebkeaaGreatQ456e2e86ee
import Derived.Test.YtgnccjojfebkeaaGreatQ2b02e7f86f
import Derived.Test.YtgnccjojfebkeaaGreatQ05c48fb51f
set_option linter.unusedVariables false
set_option linter.unusedSimpArgs false
set_option maxRecDepth 100000
set_option maxHeartbeats 4000000
namespace Go.Proofs.YtgnccjojfebkeaaGreat
open Go Go.RowKit Go.BigFrame Cp
structure OwnWr (B b:Nat) (x:Wr) (W:World) (va vg vs vw vo vd:Value):Prop where
 desk:OwnDk (fun k=>k=b∨vd.ownBlock=some k) B x.1 W va vg vs vw vo
 deeds:OSl RDe 7 136 B (Qjf (fun k=>k=b) B vs vw vo) W vd x.2
 cells:∀(i:Nat) (v:Value),([.int .i64 x.1.site,va,vg,vs,vw,.int .i64 x.1.clock,vo,vd]:List Value)[i]?=some v→W.cell? ⟨b,i,none⟩=some v
 fz:∀o,W.frozen? ⟨b,o,none⟩=false
 apart:∀k,vd.ownBlock=some k→k≠b
 le:B≤b
def Qrl (B b:Nat) (er:Int) (y:Wr) (w:World) (e:Ending) (w':World):Prop:=
 e= .returned (.int .i64 er)∧(∃z va vg vs vw vo vd,OwnWr B b z w' va vg vs vw vo vd∧(er=0→z=y))∧∀a:World,Ext a w→a.heap.size≤B→Ext a w'
def Qwz (B b:Nat) (vd:Value) (er:Int) (y:Wr) (w:World) (e:Ending) (w':World):Prop:=
 e= .returned (.int .i64 er)∧(∃z va vg vs vw vo vd',OwnWr B b z w' va vg vs vw vo vd'∧(er=0→z=y)∧∀k,vd'.ownBlock=some k→vd.ownBlock=some k∨w.heap.size≤k)∧(∀a:World,Ext a w→a.heap.size≤B→Ext a w')∧Keeps (fun k=>k≠b∧some k≠vd.ownBlock) w w'
theorem Q8k {B b:Nat} {vd:Value} {er:Int} {y:Wr} {w:World} {e:Ending} {w':World} (h:Qwz B b vd er y w e w'):Qrl B b er y w e w':=by
 obtain⟨h1,⟨z,va,vg,vs,vw,vo,vd',h2,h3,_⟩,h4,_⟩:=h;exact⟨h1,⟨z,va,vg,vs,vw,vo,vd',h2,h3⟩,h4⟩
theorem Qku {F:Nat→Prop} {a w w':World} (k:Keeps F w w') (h:Ext a w):Keeps F a w':=(Keeps.of_below h).trans k
theorem Qsm {vd vd':Value} {a w:World} (h:∀k,vd'.ownBlock=some k→vd.ownBlock=some k∨w.heap.size≤k) (hx:Ext a w):∀k,vd'.ownBlock=some k→vd.ownBlock=some k∨a.heap.size≤k:=
 fun k hk=>(h k hk).imp id (fun e=>Nat.le_trans hx.size e)
section
variable {B b:Nat} {x:Wr} {w w':World} {va vg vs vw vo vd:Value}
theorem OwnWr.lt (h:OwnWr B b x w va vg vs vw vo vd):b<w.heap.size:=World.block_lt_of_cell? _ _ (h.cells 0 _ rfl)
theorem OwnWr.ext (h:OwnWr B b x w va vg vs vw vo vd) (hx:Ext w w'):OwnWr B b x w' va vg vs vw vo vd:=
 ⟨h.desk.ext hx,Qai gDe h.deeds hx,fun i v hv=>(hx.cells _ _ h.lt).trans (h.cells i v hv),fun o=>(hx.frz _ _ h.lt).trans (h.fz o),h.apart,h.le⟩
theorem OwnWr.state (h:OwnWr B b x w va vg vs vw vo vd):RSt (fun k=>B≤k) w [va,vg] x.1.state:=
 ⟨_,_,rfl,h.desk.atoms.more gAt (fun _ hk _=>hk.1),h.desk.gone.more gMk (fun _ hk _=>hk.1)⟩
theorem Qr1 {a w:World} {B b:Nat} (h:Ext a w) (hB:a.heap.size≤B) (hb:B≤b) (o:Nat) (u:Value):Ext a (w.setCell ⟨b,o,none⟩ u):=ext_set h (Nat.le_trans hB hb) u
theorem OwnWr.app {W1 w9 wf:World} {va' vg' v9:Value} {t:St} {l:List De} (h:OwnWr B b x w va vg vs vw vo vd) (k1:Keeps (fun k=>k≠b) w W1)
  (hA:RSl RAt 3 (fun k=>w.heap.size≤k) W1 va' t.1) (hG:RSl RMk 2 (fun k=>w.heap.size≤k) W1 vg' t.2)
  (h9:OSl RDe 7 136 B (Qjf (fun k=>k=b) B vs vw vo) w9 v9 (x.2++l)) (g9:W1.grownBy w9 vd.ownBlock) (at9:v9.ownBlock=vd.ownBlock∨v9.ownBlock=some W1.heap.size)
  (kf:Keeps (fun k=>k≠b) w9 wf) (hc:∀(i:Nat) (v:Value),([.int .i64 x.1.site,va',vg',vs,vw,.int .i64 x.1.clock,vo,v9]:List Value)[i]?=some v→wf.cell? ⟨b,i,none⟩=some v) (hf:∀o,wf.frozen? ⟨b,o,none⟩=false):
  OwnWr B b ({x.1 with state:=t},x.2++l) wf va' vg' vs vw vo v9:=by
 have hb:=h.lt;have hle:=h.le;have s1:=k1.size;have ls:=Qak h.desk.seen;have lw:=Qak h.desk.waits;have lo:=Qak h.desk.out;have ld:=Qak h.deeds;have fr:∀k,w.heap.size≤k→Qjf (fun k=>k=b∨vd.ownBlock=some k) B vs vw vo k:=fun k hk=>
  ⟨oM,fun hz=>hz.elim (fun e=>by omega) (fun e=>by have:=(ld k e).2;omega),fun e=>by have:=(ls k e.symm).2;omega,fun e=>by have:=(lw k e.symm).2;omega,fun e=>by have:=(lo k e.symm).2;omega⟩
 have d1:=h.desk.keep (k1.weaken (fun k _ hk e=>hk.2 (.inl e)));have d2:OwnDk (fun k=>k=b∨vd.ownBlock=some k) B {x.1 with state:=t} W1 va' vg' vs vw vo:=
  ⟨d1.is,d1.ic,hA.more gAt (fun k hk _=>fr k hk),hG.more gMk (fun k hk _=>fr k hk),d1.seen,d1.waits,d1.out,d1.apart⟩
 have d3:=d2.less (Y:=fun k=>k=b∨v9.ownBlock=some k∨vd.ownBlock=some k) (fun k hk=>by
  rcases hk with e|e|e
  ·exact .inl (.inl e)
  ·rcases at9 with h9|h9
   ·exact .inl (.inr (h9▸e))
   ·rw[h9] at e;injection e with e;exact .inr oM
  ·exact .inl (.inr e))
 have d4:=d3.keep (w':=w9) ⟨g9.size,fun k hk hl=>g9.block k hl (fun e=>hk.2 (.inr (.inr e.symm)))⟩;have d5:=d4.keep (kf.weaken (fun k _ hk e=>hk.2 (.inl e)));have d6:=d5.less (Y:=fun k=>k=b∨v9.ownBlock=some k) (fun k hk=> .inl (hk.elim .inl (fun e=> .inr (.inl e))));have ha9:∀k,v9.ownBlock=some k→k≠b:=fun k e=>by
  rcases at9 with h9|h9
  ·exact h.apart k (h9▸e)
  ·rw[h9] at e;injection e with e;omega
 refine⟨d6,Qa8 gDe h9 (kf.weaken (fun k _ hk=> ?_)),hc,hf,ha9,hle⟩;rcases hk with hk|hk
 ·exact fun e=>hk.2.1 e
 ·exact ha9 k hk.symm
end
theorem Q9g {a b:Nat} (h:a≤1000000) (k:b≤1000000):a+b≤maxLen:=Nat.le_trans (by omega:a+b≤2000000) (by unfold maxLen;decide)
theorem Q9f {a b:Nat} (h:a≤1000000) (k:b≤1000000):(a+b) * 96≤140737488355328:=oM
theorem Q9i {x:Wr} {e:Int} {l:List De} (h:¬e=0):doE x e l=e:=by unfold doE;rw[if_pos h]
theorem Q9h {x:Wr} {l:List De}:doE x 0 l=Qne x.1.state l:=by unfold doE;rw[if_neg sI]
theorem Vcd {B b:Nat} {x:Wr} {w:World} {va vg vs vw vo vd v:Value} {l:List De} {er:Int} {F:Nat→Prop} (h:OwnWr B b x w va vg vs vw vo vd) (hl:RSl RDe 7 F w v l) (hF:∀k,F k→k<w.heap.size→Qjf (fun k=>k=b) B vs vw vo k∧some k≠vd.ownBlock)
  (hx:x.2.length≤1000000) (hl3:l.length≤1000000):
  Calls Tryz.prog 165 #[.pointer (some ⟨b,0,none⟩),v,.int .i64 er] w (Qwz B b vd (doE x er l) (doV x l) w):=by
 have hbz:=h.lt;have hle:=h.le;have HW:=hH h;by_cases he:er=0
 ·subst he;rw[Q9h];have HAL:=hH (fun(W:World) (hx:Ext w W)=>Q8r (Qh1 (h.desk.atoms.ext gAt hx) (h.desk.gone.ext gMk hx)) (hl.ext gDe hx));have HL:=hH (hl.more gDe hF);obtain⟨d,ds⟩:=x;have c0:=h.cells 0 _ rfl;have c1:=h.cells 1 _ rfl;have c2:=h.cells 2 _ rfl;have c3:=h.cells 3 _ rfl;have c4:=h.cells 4 _ rfl;have c5:=h.cells 5 _ rfl;have c6:=h.cells 6 _ rfl;have c7:=h.cells 7 _ rfl;have hfz:=h.fz;have f0:=hfz 0;simp only at c0 c5 HAL hx;obtain⟨a1,n1,k1,rfl⟩:=h.desk.atoms.slice;obtain⟨a2,n2,k2,rfl⟩:=h.desk.gone.slice;obtain⟨a3,n3,k3,rfl⟩:=Qab h.desk.seen;obtain⟨a4,n4,k4,rfl⟩:=Qab h.desk.waits;obtain⟨a5,n5,k5,rfl⟩:=Qab h.desk.out;obtain⟨a6,n6,k6,rfl⟩:=Qab h.deeds;obtain⟨a7,n7,k7,rfl⟩:=hl.slice;have f1:=hfz 1;have f2:=hfz 2;have f7:=hfz 7;clear h hl hF hfz f0;by_cases hq:Qne d.state l=0
  ·have HQ:=hH hq;rw[hq] at HAL;clear hq;obtain⟨i0,hi0,hz0,hz1',hz2⟩:=info_parts Qr6;have HJ:=hH hi0;have HZ0:=hH hz0;have HZ1:=hH hz1';have HZ2:=hH hz2;clear hi0 hz0 hz1' hz2;go_enter Tryz.func165,Tryz.ntmps165;go_upto_region 7 with(go_at_call 203;go_must ((with_reducible refine(HAL.o _ Qac).mono ?_);rintro e w3 ⟨va',vg',rfl,hos,hx3⟩;obtain⟨p1,q1,r1,rfl⟩:=Qab hos.1;obtain⟨p2,q2,r2,rfl⟩:=Qab hos.2.1;have HOS:=hH hos;have hz3:=hx3.size;(try simp at hz3);have hbl:=zL hx3 b;have hbn:¬b=w3.heap.size:=oM;obtain⟨y0,y1,y2,y3,y4,y5,y6,y7⟩:=cC8 hx3 b (.int .i64 d.site) (.slice a1 n1 k1) (.slice a2 n2 k2) (.slice a3 n3 k3) (.slice a4 n4 k4) (.int .i64 d.clock) (.slice a5 n5 k5) (.slice a6 n6 k6);have g1:=(hx3.frz b 1 hbz).trans f1;have g2:=(hx3.frz b 2 hbz).trans f2;have g7:=(hx3.frz b 7 hbz).trans f7;have HX3:=hH hx3;clear hos hx3))
   refine Qad (fun W1 eW1=> ?_);obtain⟨e0,e1,e2,e3,e4,e5,e6,e7⟩:=rR8 eW1 b (.int .i64 d.site) (.slice p1 q1 r1) (.slice p2 q2 r2) (.slice a3 n3 k3) (.slice a4 n4 k4) (.int .i64 d.clock) (.slice a5 n5 k5) (.slice a6 n6 k6);have K1:=hH (show Keeps (fun k=>k≠b) w W1 by rw[eW1];exact(by repeat(first|(with_reducible exact Qag)|(with_reducible exact Qdq Qag HX3.o)|(with_reducible refine Qa1 ?_ _)|(refine Qae ?_ ltA _))));have E1:=hH (fun(a:World) (ha:Ext a w) (hB:a.heap.size≤B)=>(show Ext a W1 by
    have ha3:Ext a w3:=ext_trans ha HX3.o;have h3:=ha.size;rw[eW1];repeat(first|(with_reducible exact ha3)|(with_reducible refine ext_alloc ?_ _)|(refine ext_set ?_ ltA _))))
   have K3:=hH (show Keeps (fun k=>w.heap.size≤k) w3 W1 by
    rw[eW1];repeat(first|(with_reducible exact Qag)|(with_reducible refine Qa1 ?_ _)|(refine Qae ?_ ltA _)))
   have HA1:=hH ((Qaz (G:=fun k=>w.heap.size≤k) gAt HOS.o.1 (fun _ h _=>h.1) (fun _ h=>h)).keep gAt K3.out);have HG1:=hH ((Qaz (G:=fun k=>w.heap.size≤k) gMk HOS.o.2.1 (fun _ h _=>h.1) (fun _ h=>h)).keep gMk K3.out);have HL1:=hH (HL.o.keep gDe (K1.out.weaken (fun k _ hk=>hk.1.2.1)));have HD1:=hH (Qa8 gDe HW.o.deeds (K1.out.weaken (fun k _ hk=>hk.elim (fun hk=>hk.2.1) (fun hk=>HW.o.apart k hk.symm))));have z1:b<W1.heap.size:=World.block_lt_of_cell? _ _ e0;have HF:=hH (show∀o,W1.frozen? ⟨b,o,none⟩=false by intro o;rw[eW1];have:=(HX3.o.frz b o hbz).trans (HW.o.fz o);go_simp);have HB1:B≤W1.heap.size:=oM;have hx':ds.length≤1000000:=hx;obtain rfl:n6=ds.length:=(Qa2 HW.o.deeds).1;clear eW1 HX3 hx hz3 hbl hbn HOS K3 HL HAL g1 g2 g7 f1 f2 f7 y0 y1 y2 y3 y4 y5 y6 y7 c0 c1 c2 c3 c4 c5 c6 c7;go_wp2_with (at_builtin;go_must (refine Qaj gDe rfl (.tmp 33) (.tmp 34) 46 rfl B 136 i0 _ 7 96 Tryz.underlying46 HJ.o HZ0.o HZ1.o HZ2.o rfl oM (F:=Qjf (fun k=>k=b) B (.slice a3 n3 k3) (.slice a4 n4 k4) (.slice a5 n5 k5)) (G:=fun k=>Qjf (fun k=>k=b) B (.slice a3 n3 k3) (.slice a4 n4 k4) (.slice a5 n5 k5) k∧some k≠(Value.slice a6 ds.length k6).ownBlock) (.slice a6 ds.length k6) ds rfl HD1.o (.slice a7 n7 k7) l rfl HL1.o Qwg (fun k hk _=>hk) (Q9g hx' hl3) (Q9f hx' hl3) HB1 ?_;intro v9 w9 hown9 hg9 hat9;obtain⟨a9,n9,k9,rfl⟩:=Qab hown9;have HO9:=hH hown9;have HG9:=hH hg9;have HT9:=hH hat9;have hb9:w9.heap[b]?=W1.heap[b]?:=hg9.block b z1 (fun e=>HW.o.apart b e.symm rfl);have HF9:=hH (show∀o,w9.frozen? ⟨b,o,none⟩=false from fun o=>(World.frozen?_of_block (a:=⟨b,o,none⟩) hb9).trans (HF.o o));have hf9:=HF9.o 7;have c9_0:w9.cell? ⟨b,0,none⟩=some (.int .i64 d.site):=(World.cell?_of_block (a:=⟨b,0,none⟩) hb9).trans e0;have c9_1:w9.cell? ⟨b,1,none⟩=some (.slice p1 q1 r1):=(World.cell?_of_block (a:=⟨b,1,none⟩) hb9).trans e1;have c9_2:w9.cell? ⟨b,2,none⟩=some (.slice p2 q2 r2):=(World.cell?_of_block (a:=⟨b,2,none⟩) hb9).trans e2;have c9_3:w9.cell? ⟨b,3,none⟩=some (.slice a3 n3 k3):=(World.cell?_of_block (a:=⟨b,3,none⟩) hb9).trans e3;have c9_4:w9.cell? ⟨b,4,none⟩=some (.slice a4 n4 k4):=(World.cell?_of_block (a:=⟨b,4,none⟩) hb9).trans e4;have c9_5:w9.cell? ⟨b,5,none⟩=some (.int .i64 d.clock):=(World.cell?_of_block (a:=⟨b,5,none⟩) hb9).trans e5;have c9_6:w9.cell? ⟨b,6,none⟩=some (.slice a5 n5 k5):=(World.cell?_of_block (a:=⟨b,6,none⟩) hb9).trans e6;have c9_7:w9.cell? ⟨b,7,none⟩=some (.slice a6 ds.length k6):=(World.cell?_of_block (a:=⟨b,7,none⟩) hb9).trans e7;clear hb9 hown9 hg9 hat9))
   refine bodyPost_ret (v:= .int .i64 0) (by simp[results,Tryz.results165,go_sem]) rfl ⟨by rw[HQ.o],⟨_,_,_,_,_,_,_,HW.o.app (t:=Qrn d.state l) (l:=l) K1.out HA1.o HG1.o HO9.o HG9.o HT9.o (Qae Qag sI _) (fun i v hi=> ?_) (fun o=> ?_),fun _=>rfl,?_⟩,fun a ha hB=>ext_set (Qd5 (E1.out a ha hB) HG9.o (fun k hk=>Nat.le_trans hB (Qak HD1.o k hk).1)) (Nat.le_trans hB hle) _,?_⟩
   ·match i,hi with
    |0,hi=>injection hi with hi;subst hi;go_simp
    |1,hi=>injection hi with hi;subst hi;go_simp
    |2,hi=>injection hi with hi;subst hi;go_simp
    |3,hi=>injection hi with hi;subst hi;go_simp
    |4,hi=>injection hi with hi;subst hi;go_simp
    |5,hi=>injection hi with hi;subst hi;go_simp
    |6,hi=>injection hi with hi;subst hi;go_simp
    |7,hi=>injection hi with hi;subst hi;go_simp
    |i+8,hi=>simp at hi
   ·have:=HF9.o o;go_simp
   ·exact fun k hk=>HT9.o.elim (fun e=> .inl (e▸hk)) (fun e=> .inr (by rw[e] at hk;injection hk with hk;have:=K1.out.size;omega))
   ·exact Qae (Keeps.trans (K1.out.weaken (fun k _ hk=>hk.1)) ⟨HG9.o.size,fun k hk hl=>HG9.o.block k hl hk.2⟩) (fun _ hk=>hk.1 rfl) _
  ·have HQ:=hH hq;have t1:(Qne d.state l !=0)=true:=by simpa using hq
   clear hq;generalize Qne d.state l=er at *;go_enter Tryz.func165,Tryz.ntmps165;go_wp2_with (go_at_call 203;go_must ((with_reducible refine(HAL.o _ Qac).mono ?_);rintro e w3 ⟨va',vg',rfl,hos,hx3⟩;obtain⟨p1,q1,r1,rfl⟩:=Qab hos.1;obtain⟨p2,q2,r2,rfl⟩:=Qab hos.2.1;have HX3:=hH hx3;clear hos hx3))
   refine bodyPost_ret (v:= .int .i64 er) (by simp[results,Tryz.results165,go_sem]) rfl ⟨rfl,⟨_,_,_,_,_,_,_,HW.o.ext (ext_trans HX3.o Qac),fun e=>absurd e HQ.o,fun k hk=> .inl hk⟩,fun a ha hB=>ext_trans ha (ext_trans HX3.o Qac),Qdq Qag (ext_trans HX3.o Qac)⟩
 ·rw[Q9i he];have HQ:=hH he;have t1:(er !=0)=true:=by simpa using he
  obtain⟨a7,n7,k7,rfl⟩:=hl.slice;clear h hl hF he;go_enter Tryz.func165,Tryz.ntmps165;go_wp2_with fail
  refine bodyPost_ret (v:= .int .i64 er) (by simp[results,Tryz.results165,go_sem]) rfl ⟨rfl,⟨_,_,_,_,_,_,_,HW.o,fun e=>absurd e HQ.o,fun k hk=> .inl hk⟩,fun a ha hB=>ha,Qag⟩
end Go.Proofs.YtgnccjojfebkeaaGreat
