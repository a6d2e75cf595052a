/- Equal desks; no desk. -/
import Derived.Test.YtgnccjojfebkeaaGreatQ3b8532dffc
import Derived.Test.YtgnccjojfebkeaaGreatQ453a98ae2d
import Derived.Test.YtgnccjojfebkeaaGreatQ23fd3e177e
import Derived.Test.YtgnccjojfebkeaaGreatQa70fadfe36
import Derived.Test.YtgnccjojfebkeaaGreatQ721193eec0
set_option linter.unusedVariables false
set_option linter.unusedSimpArgs false
set_option maxRecDepth 100000
set_option maxHeartbeats 4000000
namespace Go.Proofs.YtgnccjojfebkeaaGreat
open Go Go.RowKit Go.BigFrame Cp
theorem Qur {F G:Nat→Prop} {w:World} {cs ds:List Value} {d:Dk} (h:RDk F w cs d) (k:RDk G w ds d):
  Calls Tryz.prog 33 #[.agg cs.toArray,.agg ds.toArray] w fun e w'=>e= .returned (.bool true)∧Ext w w':=by
 obtain⟨va,vg,vs,vw,vo,rfl,_,ha,hg,hq,hw,_,ho⟩:=h;obtain⟨va',vg',vs',vw',vo',rfl,_,ka,kg,kq,kw,_,ko⟩:=k;obtain⟨st,ss,sn,wt,ck,ou⟩:=d;simp only at ha hg hq hw ho ka kg kq kw ko ⊢;have HSS:=hH (fun(W:World) (hx:Ext w W)=>Qsv (Qh1 (ha.ext gAt hx) (hg.ext gMk hx)) (Qh1 (ka.ext gAt hx) (kg.ext gMk hx)));have HSI:=hH (fun(W:World) (hx:Ext w W)=>(show Calls Tryz.prog 57 #[vs,vs'] W fun e w'=>e= .returned (.bool true)∧Ext W w' from by have h:=Qm3 (hq.ext Qd6 hx) (kq.ext Qd6 hx);rw[decide_eq_true rfl] at h;exact h));have HSW:=hH (fun(W:World) (hx:Ext w W)=>Qlk (hw.ext gNo hx) (kw.ext gNo hx));have HSO:=hH (fun(W:World) (hx:Ext w W)=>Qlk (ho.ext gNo hx) (ko.ext gNo hx));have HSO':=hH trivial;obtain⟨a1,n1,k1,rfl⟩:=ha.slice;obtain⟨a1',n1',k1',rfl⟩:=ka.slice;obtain rfl:n1=n1':=ha.len.1.trans ka.len.1.symm;obtain⟨a2,n2,k2,rfl⟩:=hg.slice;obtain⟨a2',n2',k2',rfl⟩:=kg.slice;obtain rfl:n2=n2':=hg.len.1.trans kg.len.1.symm;obtain⟨a3,n3,k3,rfl⟩:=hq.slice;obtain⟨a3',n3',k3',rfl⟩:=kq.slice;obtain rfl:n3=n3':=hq.len.1.trans kq.len.1.symm;obtain⟨a4,n4,k4,rfl⟩:=hw.slice;obtain⟨a4',n4',k4',rfl⟩:=kw.slice;obtain rfl:n4=n4':=hw.len.1.trans kw.len.1.symm;obtain⟨a5,n5,k5,rfl⟩:=ho.slice;obtain⟨a5',n5',k5',rfl⟩:=ko.slice;obtain rfl:n5=n5':=ho.len.1.trans ko.len.1.symm;clear ha hg hq hw ho ka kg kq kw ko;go_enter Tryz.func33,Tryz.ntmps33;go_wp2_with (first|(go_at_call 56;go_must ((with_reducible refine(HSS.o _ Qac).mono ?_);rintro e w3 ⟨rfl,hx3⟩;have HX3:=xY w hx3;obtain⟨c3_0,c3_1,c3_2,c3_3,c3_4,c3_5,c3_6⟩:=cC7 hx3 w.heap.size (.int .i64 st) (.slice a1 n1 k1) (.slice a2 n2 k2) (.slice a3 n3 k3) (.slice a4 n4 k4) (.int .i64 ck) (.slice a5 n5 k5);obtain⟨d3_0,d3_1,d3_2,d3_3,d3_4,d3_5,d3_6⟩:=cC7 hx3 (w.heap.size+1) (.int .i64 st) (.slice a1' n1 k1') (.slice a2' n2 k2') (.slice a3' n3 k3') (.slice a4' n4 k4') (.int .i64 ck) (.slice a5' n5 k5');have hb3:w.heap.size+1<w3.heap.size:=(by have:=hx3.size;(try simp at this);omega);clear hx3))|(go_at_call 57;go_must ((with_reducible refine(HSI.o _ (ext_trans HX3.o Qac)).mono ?_);rintro e w4 ⟨rfl,hx4⟩;have HX4:=xX HX3 hx4;obtain⟨c4_0,c4_1,c4_2,c4_3,c4_4,c4_5,c4_6⟩:=cC7 hx4 w.heap.size (.int .i64 st) (.slice a1 n1 k1) (.slice a2 n2 k2) (.slice a3 n3 k3) (.slice a4 n4 k4) (.int .i64 ck) (.slice a5 n5 k5);obtain⟨d4_0,d4_1,d4_2,d4_3,d4_4,d4_5,d4_6⟩:=cC7 hx4 (w.heap.size+1) (.int .i64 st) (.slice a1' n1 k1') (.slice a2' n2 k2') (.slice a3' n3 k3') (.slice a4' n4 k4') (.int .i64 ck) (.slice a5' n5 k5');have hb4:w.heap.size+1<w4.heap.size:=(by have:=hx4.size;(try simp at this);omega);clear hx4))|(go_at_call 60;(clear HSO');((with_reducible refine(HSW.o _ (ext_trans HX4.o Qac)).mono ?_);rintro e w5 ⟨rfl,hx5⟩;have HX5:=xX HX4 hx5;obtain⟨c5_0,c5_1,c5_2,c5_3,c5_4,c5_5,c5_6⟩:=cC7 hx5 w.heap.size (.int .i64 st) (.slice a1 n1 k1) (.slice a2 n2 k2) (.slice a3 n3 k3) (.slice a4 n4 k4) (.int .i64 ck) (.slice a5 n5 k5);obtain⟨d5_0,d5_1,d5_2,d5_3,d5_4,d5_5,d5_6⟩:=cC7 hx5 (w.heap.size+1) (.int .i64 st) (.slice a1' n1 k1') (.slice a2' n2 k2') (.slice a3' n3 k3') (.slice a4' n4 k4') (.int .i64 ck) (.slice a5' n5 k5');have hb5:w.heap.size+1<w5.heap.size:=(by have:=hx5.size;(try simp at this);omega);clear hx5))|(go_at_call 60;((with_reducible refine(HSO.o _ (ext_trans HX5.o Qac)).mono ?_);rintro e w6 ⟨rfl,hx6⟩;have HX6:=xX HX5 hx6;clear hx6)))
 go_ret;exact⟨rfl,ext_trans HX6.o Qac⟩
def Vcn (d:Dk) (er:Int) (w:World) (e:Ending) (w':World):Prop:=
 ∃(a1:Option Addr) (n1 c1:Nat) (a2:Option Addr) (n2 c2:Nat) (a3:Option Addr) (n3 c3:Nat) (a4:Option Addr) (n4 c4:Nat) (a5:Option Addr) (n5 c5:Nat),e= .returned (.tuple #[.agg #[.int .i64 d.site,.slice a1 n1 c1,.slice a2 n2 c2,.slice a3 n3 c3,.slice a4 n4 c4,.int .i64 d.clock,.slice a5 n5 c5],.int .i64 er])∧RDk (fun _=>True) w' [.int .i64 d.site,.slice a1 n1 c1,.slice a2 n2 c2,.slice a3 n3 c3,.slice a4 n4 c4,.int .i64 d.clock,.slice a5 n5 c5] d∧Ext w w'
theorem Vbi {d:Dk} {er:Int} {w:World} {e:Ending} {w':World} (h:Qm5 d er w e w'):Vcn d er w e w':=by
 obtain⟨va,vg,vs,vw,vo,rfl,hd,hx⟩:=h;have hd':=hd;obtain⟨_,_,_,_,_,he,_,h1,h2,h3,h4,_,h5'⟩:=hd;injection he with _ he
 injection he with e1 he
 injection he with e2 he
 injection he with e3 he
 injection he with e4 he
 injection he with _ he
 injection he with e5 _
 subst e1 e2 e3 e4 e5;obtain⟨a1,n1,c1,rfl⟩:=h1.slice;obtain⟨a2,n2,c2,rfl⟩:=h2.slice;obtain⟨a3,n3,c3,rfl⟩:=h3.slice;obtain⟨a4,n4,c4,rfl⟩:=h4.slice;obtain⟨a5,n5,c5,rfl⟩:=h5'.slice;exact⟨_,_,_,_,_,_,_,_,_,_,_,_,_,_,_,rfl,gDk.more (fun _ _ _=>trivial) hd',hx⟩
theorem Qu0 {d:Dk} {p:Int} {t:Tx} (h:¬Qjg d p t=0):Qj8 d p t=noK:=Qdh h
theorem Qwf {F:Nat→Prop} {w:World} {cs:List Value} {d:Dk} (h:RDk F w cs d) (hd:d=noK):Calls Tryz.prog 48 #[.agg cs.toArray] w fun e w'=>e= .returned (.bool true)∧Ext w w':=by
 subst hd;obtain⟨va,vg,vs,vw,vo,rfl,_,ha,hg,hq,hw,_,ho⟩:=h;obtain⟨a1,n1,k1,rfl⟩:=ha.slice;obtain⟨a2,n2,k2,rfl⟩:=hg.slice;obtain⟨a3,n3,k3,rfl⟩:=hq.slice;obtain⟨a4,n4,k4,rfl⟩:=hw.slice;obtain⟨a5,n5,k5,rfl⟩:=ho.slice;obtain rfl:n1=0:=ha.len.1;obtain rfl:n2=0:=hg.len.1;obtain rfl:n3=0:=hq.len.1;obtain rfl:n4=0:=hw.len.1;obtain rfl:n5=0:=ho.len.1;clear ha hg hq hw ho
 show Calls Tryz.prog 48 #[.agg #[.int .i64 0,.slice a1 0 k1,.slice a2 0 k2,.slice a3 0 k3,.slice a4 0 k4,.int .i64 0,.slice a5 0 k5]] w _
 go_enter Tryz.func48,Tryz.ntmps48;go_wp2_with fail
 go_ret;exact⟨rfl,Qac⟩
def Vas (l:List De) (w:World) (e:Ending) (w':World):Prop:=∃v,e= .returned v∧RSl RDe 7 (fun _=>True) w' v l∧Ext w w'
theorem Q61 {F G:Nat→Prop} {w:World} {cs ds:List Value} {d e:Dk} {n:No} (h:RDk F w cs d) (k:RDk G w ds e) (he:e.out=d.out++[n]) (hl:d.out.length≤1000):
  Calls Tryz.prog 49 #[.agg cs.toArray,.agg ds.toArray] w (Vas n.deeds w):=by
 obtain⟨va,vg,vs,vw,vo,rfl,_,ha,hg,hq,hw,_,ho⟩:=h;obtain⟨va',vg',vs',vw',vo',rfl,_,ka,kg,kq,kw,_,ko⟩:=k;obtain⟨a1,n1,k1,rfl⟩:=ha.slice;obtain⟨a2,n2,k2,rfl⟩:=hg.slice;obtain⟨a3,n3,k3,rfl⟩:=hq.slice;obtain⟨a4,n4,k4,rfl⟩:=hw.slice;obtain⟨a5,n5,k5,rfl⟩:=ho.slice;obtain⟨a1',n1',k1',rfl⟩:=ka.slice;obtain⟨a2',n2',k2',rfl⟩:=kg.slice;obtain⟨a3',n3',k3',rfl⟩:=kq.slice;obtain⟨a4',n4',k4',rfl⟩:=kw.slice;obtain⟨a5',n5',k5',rfl⟩:=ko.slice;obtain rfl:n5=d.out.length:=ho.len.1;obtain rfl:n5'=d.out.length+1:=ko.len.1.trans (by rw[he,List.length_append];rfl);obtain⟨b,o,x,b1,m1,c1,b2,m2,c2,ea,hb,ek,hx,s0,s1,s2,s3⟩:=Qdj ko (i:=d.out.length) oM;subst ea;obtain rfl:n=x:=by
  rw[he,List.getElem?_append_right (Nat.le_refl _),Nat.sub_self] at ek;simpa using ek
 have HD:=hH (RSl.more gDe (G:=fun _=>True) (fun _ _ _=>trivial) (Qit hx).2);have hwl:wrap64 ((d.out.length:Int)+1)=(d.out.length:Int)+1:=IntWalk.wrap64_in _ oM;have t1:(((d.out.length+1:Nat):Int) !=(d.out.length:Int)+1)=false:=sI;have hb1:¬b=w.heap.size:=oM;have hb2:¬b=w.heap.size+1:=oM;clear ha hg hq hw ho ka kg kq kw ko hx ek he;go_enter Tryz.func49,Tryz.ntmps49;go_wp2_with fail
 go_ret;exact⟨_,rfl,HD.o.ext gDe Qac,Qac⟩
end Go.Proofs.YtgnccjojfebkeaaGreat
