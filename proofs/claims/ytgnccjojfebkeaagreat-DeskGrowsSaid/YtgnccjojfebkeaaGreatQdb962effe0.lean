/- A note; what must be in any case of what was seen. -/
import Derived.Test.YtgnccjojfebkeaaGreatQ24d212c46b
import Derived.Test.YtgnccjojfebkeaaGreatQa70fadfe36
import Derived.Test.YtgnccjojfebkeaaGreatQb3a614442e
import Derived.Deep.OwnRows
import Derived.Test.YtgnccjojfebkeaaGreatQfc0f38224b
import Derived.Test.YtgnccjojfebkeaaGreatQe1b3bbb0d1
import Derived.Test.YtgnccjojfebkeaaGreatQbba74dd308
set_option linter.unusedVariables false
set_option linter.unusedSimpArgs false
set_option maxRecDepth 100000
set_option maxHeartbeats 4000000
namespace Go.Proofs.YtgnccjojfebkeaaGreat
open Go Go.RowKit Go.BigFrame Cp
def lB:List Int:=[1,0,3,0,0]
def mB:List Int:=[0,2,3,0,0]
def jB:List Int:=[1,2,3,0,0]
def zB:List Int:=[0,0,0,0,0]
section
variable {F G:Nat→Prop} {w:World} {v u:Value}
theorem Veu (h:RSl Qe1 1 F w v lB) (k:RSl Qe1 1 G w u mB):Calls Tryz.prog 43 #[v,u] w (Vex jB 0 w):=by
 have h1:=Ve8 h k;have e:Vd7 lB mB=0:=dC;have e2:Vfj lB mB=jB:=dC;rw[e,if_pos rfl,e2] at h1;exact h1
theorem Ves (h:RSl Qe1 1 F w v jB) (k:RSl Qe1 1 G w u lB):Calls Tryz.prog 59 #[v,u] w fun e w'=>e= .returned (.tuple #[.bool true,.int .i64 0])∧Ext w w':=by
 have h1:=Veb h k;have e:Vd7 jB lB=0:=dC;have e2:Qgh jB lB=true:=dC;rw[e,if_pos rfl,e2] at h1;exact h1
theorem Vet (h:RSl Qe1 1 F w v lB) (k:RSl Qe1 1 G w u mB):Calls Tryz.prog 59 #[v,u] w fun e w'=>e= .returned (.tuple #[.bool false,.int .i64 0])∧Ext w w':=by
 have h1:=Veb h k;have e:Vd7 lB mB=0:=dC;have e2:Qgh lB mB=false:=dC;rw[e,if_pos rfl,e2] at h1;exact h1
theorem Vfa:Qa0 noteN=0:=dC
theorem Vee {cs:List Value} (h:RSl Qe1 1 F w v zB) (k:RNo G w cs noteN):Calls Tryz.prog 75 #[v,.agg cs.toArray] w fun e w'=>e= .returned (.tuple #[.bool true,.int .i64 0])∧Ext w w':=by
 have h1:=Ve3 h k;have e:Qbx zB=0:=dC;have e2:Qb5 zB noteN=true:=dC;rw[e,if_pos rfl,Vfa,if_pos ⟨rfl,rfl⟩,e2] at h1;exact h1
theorem Vez (h:RSl Qe1 1 F w v lB):Calls Tryz.prog 76 #[v] w fun e w'=>e= .returned (.int .i64 0)∧Ext w w':=by
 have h1:=Qyo h;have e:Qbx lB=0:=dC;rw[e] at h1;exact h1
theorem Vel (h:RSl Qe1 1 F w v jB) (k:RSl Qe1 1 G w u jB):Calls Tryz.prog 57 #[v,u] w fun e w'=>e= .returned (.bool true)∧Ext w w':=by
 have h1:=Qm3 h k;rw[decide_eq_true rfl] at h1;exact h1
end
theorem Vea (w:World):Calls Tryz.prog 25 #[] w fun e w'=>e= .returned (.bool true)∧Ext w w':=by
 have hmk:=Qt6;go_enter Tryz.func25,Tryz.ntmps25;go_wp2_with (first
  |(go_at_call 43;go_must ((with_reducible refine(Veu (Qvz (F:=(fun _=>True)) (r:=w.heap.size) (c:=5) (x0:=1) (x1:=0) (x2:=3) (x3:=0) (x4:=0) asG asG asG asG asG trivial ltA (Nat.le_refl _) mO (by intro x hx;simp at hx;unfold I64;omega)) (Qvz (F:=(fun _=>True)) (r:=w.heap.size+1) (c:=5) (x0:=0) (x1:=2) (x2:=3) (x3:=0) (x4:=0) asG asG asG asG asG trivial ltA (Nat.le_refl _) mO (by intro x hx;simp at hx;unfold I64;omega))).mono ?_);rintro e w1 ⟨v1,rfl,hv1,hx1⟩;obtain⟨a1,n1,c1,rfl⟩:=hv1.slice;obtain rfl:n1=5:=hv1.len.1;have HV1:=hH hv1;clear hv1;have hz1:=hx1.size;(try simp at hz1);obtain⟨hb1_0,hb1_1⟩:=zL2 hx1 w.heap.size;obtain⟨p10,p11,p12,p13,p14⟩:=cC5 hx1 (w.heap.size) (.int .i64 1) (.int .i64 0) (.int .i64 3) (.int .i64 0) (.int .i64 0);obtain⟨p15,p16,p17,p18,p19⟩:=cC5 hx1 (w.heap.size+1) (.int .i64 0) (.int .i64 2) (.int .i64 3) (.int .i64 0) (.int .i64 0)))
  |(go_at_call 59;(with_reducible refine(Ves (HV1.o.ext Qd6 Qac) (Qvz (F:=(fun _=>True)) (r:=w.heap.size) (c:=5) (x0:=1) (x1:=0) (x2:=3) (x3:=0) (x4:=0) asG asG asG asG asG trivial ltA (Nat.le_refl _) mO (by intro x hx;simp at hx;unfold I64;omega))).mono ?_);rintro e w2 ⟨rfl,hx2⟩;have hz2:=hx2.size;(try simp at hz2);obtain⟨hb2_0,hb2_1⟩:=zL2 hx2 w.heap.size;obtain⟨p20,p21,p22,p23,p24⟩:=cC5 hx2 (w.heap.size) (.int .i64 1) (.int .i64 0) (.int .i64 3) (.int .i64 0) (.int .i64 0);obtain⟨p25,p26,p27,p28,p29⟩:=cC5 hx2 (w.heap.size+1) (.int .i64 0) (.int .i64 2) (.int .i64 3) (.int .i64 0) (.int .i64 0))
  |(go_at_call 59;(with_reducible refine(Vet (Qvz (F:=(fun _=>True)) (r:=w.heap.size) (c:=5) (x0:=1) (x1:=0) (x2:=3) (x3:=0) (x4:=0) asG asG asG asG asG trivial ltA (Nat.le_refl _) mO (by intro x hx;simp at hx;unfold I64;omega)) (Qvz (F:=(fun _=>True)) (r:=w.heap.size+1) (c:=5) (x0:=0) (x1:=2) (x2:=3) (x3:=0) (x4:=0) asG asG asG asG asG trivial ltA (Nat.le_refl _) mO (by intro x hx;simp at hx;unfold I64;omega))).mono ?_);rintro e w3 ⟨rfl,hx3⟩;have hz3:=hx3.size;(try simp at hz3);obtain⟨hb3_0,hb3_1⟩:=zL2 hx3 w.heap.size;obtain⟨p30,p31,p32,p33,p34⟩:=cC5 hx3 (w.heap.size) (.int .i64 1) (.int .i64 0) (.int .i64 3) (.int .i64 0) (.int .i64 0);obtain⟨p35,p36,p37,p38,p39⟩:=cC5 hx3 (w.heap.size+1) (.int .i64 0) (.int .i64 2) (.int .i64 3) (.int .i64 0) (.int .i64 0)))
 refine Qad (fun w4 ew4=> ?_);obtain⟨nz0,nz1,nz2,nz3,nz4⟩:=rR5 ew4 w.heap.size (.int .i64 1) (.int .i64 0) (.int .i64 3) (.int .i64 0) (.int .i64 0);obtain⟨nz5,nz6,nz7,nz8,nz9⟩:=rR5 ew4 (w.heap.size+1) (.int .i64 0) (.int .i64 2) (.int .i64 3) (.int .i64 0) (.int .i64 0);have zw4_0:=zE ew4 w.heap.size;have zw4_1:=zE ew4 (w.heap.size+1);have hw4:=xE w1 ew4;have hx44:Ext w w4:=ext_trans Qac hw4;clear ew4 hx1 hx2 hx3;go_region_law (first
  |(go_simp;go_at_call 71;go_must ((with_reducible refine(Q6n _).mono ?_);rintro e w5 ⟨v5,u5,rfl,hn5,hx5⟩;have hn5':=hn5;obtain⟨v5',u5',e5,_,_,hl5,hd5⟩:=hn5;simp only[List.cons.injEq,true_and,and_true] at e5;obtain⟨rfl,rfl⟩:=e5;obtain⟨a5,n5,c5,rfl⟩:=hl5.slice;obtain⟨a6,n6,c6,rfl⟩:=hd5.slice;have HN5:=hH hn5';clear hn5' hl5 hd5;have hz5:=hx5.size;(try simp at hz5);obtain⟨hb5_0,hb5_1⟩:=zL2 hx5 w.heap.size;obtain⟨p50,p51,p52,p53,p54⟩:=cC5 hx5 (w.heap.size) (.int .i64 1) (.int .i64 0) (.int .i64 3) (.int .i64 0) (.int .i64 0);obtain⟨p55,p56,p57,p58,p59⟩:=cC5 hx5 (w.heap.size+1) (.int .i64 0) (.int .i64 2) (.int .i64 3) (.int .i64 0) (.int .i64 0);(try(refine Qev ((hx5.cells w4.heap.size 0 ?_).trans (?_:_=some (.int .i64 0))) (fun cz0=> ?_);(· simp);(· go_simp)));(try(refine Qev ((hx5.cells w4.heap.size 1 ?_).trans (?_:_=some (.int .i64 0))) (fun cz1=> ?_);(· simp);(· go_simp)));(try(refine Qev ((hx5.cells w4.heap.size 2 ?_).trans (?_:_=some (.int .i64 0))) (fun cz2=> ?_);(· simp);(· go_simp)));(try(refine Qev ((hx5.cells w4.heap.size 3 ?_).trans (?_:_=some (.int .i64 0))) (fun cz3=> ?_);(· simp);(· go_simp)));(try(refine Qev ((hx5.cells w4.heap.size 4 ?_).trans (?_:_=some (.int .i64 0))) (fun cz4=> ?_);(· simp);(· go_simp)));(try(have hz54:w4.heap.size<w5.heap.size:=oM))))
  |(go_simp;go_at_call 75;(with_reducible refine(Vee (Qvz (F:=(fun _=>True)) (r:=w4.heap.size) (c:=5) (x0:=0) (x1:=0) (x2:=0) (x3:=0) (x4:=0) asG asG asG asG asG trivial ltA (Nat.le_refl _) mO (by intro x hx;simp at hx;unfold I64;omega)) (gNo.ext HN5.o Qac)).mono ?_);rintro e w6 ⟨rfl,hx6⟩;have hz6:=hx6.size;(try simp at hz6);obtain⟨hb6_0,hb6_1⟩:=zL2 hx6 w.heap.size;obtain⟨p60,p61,p62,p63,p64⟩:=cC5 hx6 (w.heap.size) (.int .i64 1) (.int .i64 0) (.int .i64 3) (.int .i64 0) (.int .i64 0);obtain⟨p65,p66,p67,p68,p69⟩:=cC5 hx6 (w.heap.size+1) (.int .i64 0) (.int .i64 2) (.int .i64 3) (.int .i64 0) (.int .i64 0))
  |(go_simp;go_at_call 75;(with_reducible refine(Vee (Qvz (F:=(fun _=>True)) (r:=w5.heap.size) (c:=5) (x0:=0) (x1:=0) (x2:=0) (x3:=0) (x4:=0) asG asG asG asG asG trivial ltA (Nat.le_refl _) mO (by intro x hx;simp at hx;unfold I64;omega)) (gNo.ext HN5.o Qac)).mono ?_);rintro e w6 ⟨rfl,hx6⟩;have hz6:=hx6.size;(try simp at hz6);obtain⟨hb6_0,hb6_1⟩:=zL2 hx6 w.heap.size;obtain⟨p60,p61,p62,p63,p64⟩:=cC5 hx6 (w.heap.size) (.int .i64 1) (.int .i64 0) (.int .i64 3) (.int .i64 0) (.int .i64 0);obtain⟨p65,p66,p67,p68,p69⟩:=cC5 hx6 (w.heap.size+1) (.int .i64 0) (.int .i64 2) (.int .i64 3) (.int .i64 0) (.int .i64 0)))
 all_goals go_wp2_with (first
  |(go_at_call 76;go_must ((with_reducible refine(Vez (Qvz (F:=(fun _=>True)) (r:=w.heap.size) (c:=5) (x0:=1) (x1:=0) (x2:=3) (x3:=0) (x4:=0) asG asG asG asG asG trivial ltA (Nat.le_refl _) mO (by intro x hx;simp at hx;unfold I64;omega))).mono ?_);rintro e w7 ⟨rfl,hx7⟩;have hz7:=hx7.size;(try simp at hz7);obtain⟨hb7_0,hb7_1⟩:=zL2 hx7 w.heap.size;obtain⟨p70,p71,p72,p73,p74⟩:=cC5 hx7 (w.heap.size) (.int .i64 1) (.int .i64 0) (.int .i64 3) (.int .i64 0) (.int .i64 0);obtain⟨p75,p76,p77,p78,p79⟩:=cC5 hx7 (w.heap.size+1) (.int .i64 0) (.int .i64 2) (.int .i64 3) (.int .i64 0) (.int .i64 0)))
  |(go_at_call 57;go_must ((with_reducible refine(Vel (HV1.o.ext Qd6 Qac) (Qvz (F:=(fun _=>True)) (r:=w7.heap.size) (c:=5) (x0:=1) (x1:=2) (x2:=3) (x3:=0) (x4:=0) asG asG asG asG asG trivial ltA (Nat.le_refl _) mO (by intro x hx;simp at hx;unfold I64;omega))).mono ?_);rintro e w8 ⟨rfl,hx8⟩)))
 all_goals go_ret
 all_goals exact⟨rfl,Qac⟩
end Go.Proofs.YtgnccjojfebkeaaGreat
