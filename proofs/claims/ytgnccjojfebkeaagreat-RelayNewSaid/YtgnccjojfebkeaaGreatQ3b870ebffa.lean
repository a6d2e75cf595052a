/- Notes pulled. -/
import Derived.Test.YtgnccjojfebkeaaGreatQ37a248829e
import Derived.Test.YtgnccjojfebkeaaGreatQ5ffe96eb4e
import Derived.Test.YtgnccjojfebkeaaGreatQ2b02e7f86f
import Derived.Test.YtgnccjojfebkeaaGreatQ0ab0543141
import Derived.Test.YtgnccjojfebkeaaGreatQ9fee5ace90
import Derived.Test.YtgnccjojfebkeaaGreatQ067801634e
import Derived.Test.YtgnccjojfebkeaaGreatQ23fd3e177e
import Derived.Deep.CutRange
set_option linter.unusedVariables false
set_option linter.unusedSimpArgs false
set_option maxRecDepth 100000
set_option maxHeartbeats 4000000
namespace Go.Proofs.YtgnccjojfebkeaaGreat
open Go Go.RowKit Go.BigFrame Cp
def Vfu (l:List No) (c m:Int) (w:World) (e:Ending) (w':World):Prop:=
 ∃u,e= .returned (.tuple #[u,.int .i64 (Vei l c m)])∧RSl RNo 4 (fun j=>w.heap.size≤j) w' u (Vez l c m)∧Ext w w'
theorem Ver {l:List No} {c m er:Int} {w w':World} (h:Vei l c m=er) (hne:¬er=0) (hx:Ext w w'):Vfu l c m w (.returned (.tuple #[.slice none 0 0,.int .i64 er])) w':=by
 have hv:Vez l c m=[]:=by unfold Vez;rw[if_neg (by rw[h];exact hne)]
 exact⟨_,by rw[h],by rw[hv];exact RSl.nil_ (Nat.zero_le _),hx⟩
theorem Vf3 {l:List No} {i j k:Nat} (h1:i≤k) (h2:k=min l.length (i+j)):(l.drop i).take (k-i)=(l.drop i).take j:=by
 subst h2;by_cases h:i+j≤l.length
 ·rw[Nat.min_eq_right h,Nat.add_sub_cancel_left]
 ·rw[Nat.min_eq_left oM,List.take_of_length_le (by rw[List.length_drop];omega),List.take_of_length_le (by rw[List.length_drop];omega)]
theorem Vf7 {i j:Nat} (h:i≤300) (k:j≤300):wrap64 ((i:Int)+(j:Int))=((i+j:Nat):Int):=by rw[IntWalk.wrap64_in _ oM];rfl
theorem Ved {p:Prop} (h:p:=by
 go_enter Tryz.func40,Tryz.ntmps40;go_wp2_with (first
  |(go_at_call 70;go_must ((with_reducible refine(HCR.o _ Qac).mono ?_);rintro e w3 ⟨rfl,hx3⟩;have hz3:=hx3.size;(try simp at hz3);have hn3:=zL hx3 w.heap.size;have b0:=cL hx3 (w.heap.size) 0 (.slice a0 l.length c0);have HX3:=xY w hx3)))
 first
 |(
   clear zqa;go_ret2
   exact Ver HE.o HNE.o HX3.o
   done)
 |(
   clear zqb;go_ret2
   exact Ver HE.o oM HX3.o
   done)):p:=h
theorem Zbi {p:Prop} (h:p:=by
 go_wp2_with (first|(go_at_call 99;go_must ((with_reducible refine(HOW.o _ (ext_trans HX4.o Qac) _ (by have h9:=HSB.o _ (show Ext w _ from ext_trans HX4.o Qac);simpa [hk1,hci] using h9)).mono ?_);rintro e w5 ⟨u5,rfl,ho5,hx5⟩;obtain⟨a5,n5,c5,rfl⟩:=Qab ho5;have HX5:=xX HX4 hx5;have HV5:=hH (RSl.more gNo (fun t ht _=>Nat.le_trans HX4.o.size ht) (Qaz gNo ho5 (fun _ h _=>h) (fun _ h=>h))))))
 refine bodyPost_ret (v:= .tuple #[.slice a5 n5 c5,.int .i64 0]) (by simp[results,Tryz.results40,go_sem]) rfl ⟨_,by rw[HE.o],?_,ext_trans HX5.o Qac⟩;rw[HV.o];exact HV5.o):p:=h
theorem Vfk {F:Nat→Prop} {w:World} {v:Value} {l:List No} {c m:Int} (h:RSl RNo 4 F w v l) (ic:I64 c) (im:I64 m):
  Calls Tryz.prog 40 #[.agg #[v],.int .i64 c,.int .i64 m] w (Vfu l c m w):=by
 have HCR:=hH (fun(W:World) (hx:Ext w W)=>Vd9 (h.ext gNo hx));have HSU:=hH (fun(W:World) (hx:Ext w W)=>h.ext gNo hx);obtain⟨a0,n0,c0,rfl⟩:=h.slice;obtain⟨rfl,hn1,hn2⟩:=h.len;clear h;by_cases hc1:Vd7 l=0
 ·obtain⟨hl3,hll⟩:=checkLog_ok.1 hc1;by_cases hq:inB c 0 l.length=false∨inB m 0 300=false
  ·have HE:=hH (show Vei l c m=3 by unfold Vei;rw[if_neg (by simpa using hc1),if_pos hq]);rw[hc1] at HCR;have hq':¬(0≤c∧c≤l.length∧0≤m∧m≤300):=by
    rintro⟨g1,g2,g3,g4⟩;rcases hq with h|h
    ·unfold inB at h;simp at h;omega
    ·unfold inB at h;simp at h;omega
   clear hc1 hq hll;by_cases g1:c<0
   ·have t1:decide (c<0)=true:=decide_eq_true g1;clear hq' g1;have zqb:=trivial;exact Ved
   have t1:decide (c<0)=false:=decide_eq_false g1;by_cases g2:(l.length:Int)<c
   ·have t2:decide ((l.length:Int)<c)=true:=decide_eq_true g2;clear hq' g1 g2;have zqb:=trivial;exact Ved
   have t2:decide ((l.length:Int)<c)=false:=decide_eq_false g2;by_cases g3:m<0
   ·have t3:decide (m<0)=true:=decide_eq_true g3;clear hq' g1 g2 g3;have zqb:=trivial;exact Ved
   have t3:decide (m<0)=false:=decide_eq_false g3;have t4:decide ((300:Int)<m)=true:=decide_eq_true oM;clear hq' g1 g2 g3;have zqb:=trivial;exact Ved
  ·have hE:Vei l c m=0:=by unfold Vei;rw[if_neg (by simpa using hc1),if_neg hq]
   obtain⟨_,p1,p2,p3,p4⟩:=Vfo hE;have hV:Vez l c m=(l.drop c.toNat).take m.toNat:=by unfold Vez;rw[if_pos hE]
   obtain⟨i,rfl⟩:∃i:Nat,c=(i:Int):=⟨c.toNat,oM⟩;obtain⟨j,rfl⟩:∃j:Nat,m=(j:Int):=⟨m.toNat,oM⟩;rw[Int.toNat_natCast,Int.toNat_natCast] at hV;obtain⟨k,hk⟩:∃k:Nat,k=min l.length (i+j):=⟨_,rfl⟩;have hik:i≤k:=oM;have hkl:k≤l.length:=oM;have HOW:=hH (fun(W:World) (hx:Ext w W) (v:Value) (hv:RSl RNo 4 F W v ((l.drop i).take j))=>Qld hv (by rw[List.length_take,List.length_drop];omega) (fun n hn=>by obtain⟨t,ht⟩:=List.getElem?_of_mem (List.mem_of_mem_drop (List.mem_of_mem_take hn));exact(hll t n ht).1));have HSB:=hH (fun(W:World) (hx:Ext w W)=>(show RSl RNo 4 F W _ ((l.drop i).take j) from by have:=Vac (HSU.o W hx) hik hkl;rwa [Vf3 hik hk] at this));have HE:=hH hE;have HV:=hH hV;rw[hc1] at HCR;have t1:decide ((i:Int)<0)=false:=decide_eq_false oM;have t2:decide ((l.length:Int)<(i:Int))=false:=decide_eq_false oM;have t3:decide ((j:Int)<0)=false:=decide_eq_false oM;have t4:decide ((300:Int)<(j:Int))=false:=decide_eq_false oM;have HW:=hH (Vf7 (i:=i) (j:=j) oM oM);clear hE hV hc1 hq hll p1 p2 p3 p4;go_enter Tryz.func40,Tryz.ntmps40;go_upto_region 6 with(first|(go_at_call 70;go_must ((with_reducible refine(HCR.o _ Qac).mono ?_);rintro e w3 ⟨rfl,hx3⟩;have hz3:=hx3.size;(try simp at hz3);have hn3:=zL hx3 w.heap.size;have b0:=cL hx3 (w.heap.size) 0 (.slice a0 l.length c0);have HX3:=xY w hx3)))
   refine Qad (fun W4 eW4=> ?_);have b4:=rL eW4 ⟨w.heap.size,0,none⟩ (.slice a0 l.length c0);have HX4:=hH (show Ext w W4 by rw[eW4];exact ext_trans HX3.o Qac);clear eW4 b0 HX3 hx3 hz3 hn3;by_cases hm:l.length≤i+j
   ·have hk1:k=l.length:=oM;have t5:(l.length:Int)≤(i:Int)+(j:Int):=oM;have t6:=HW.o;by_cases hci:c0=i
    ·exact Zbi
    ·exact Zbi
   ·have hk1:k=i+j:=oM;have t5:¬(l.length:Int)≤(i:Int)+(j:Int):=oM;have t6:=HW.o;by_cases hci:c0=i
    ·exact absurd hn1 oM
    ·exact Zbi
 ·have HE:=hH (show Vei l c m=Vd7 l by unfold Vei;rw[if_pos hc1]);have HNE:=hH hc1;have t1:(Vd7 l !=0)=true:=by simpa using hc1
  clear hc1;generalize Vd7 l=er at *;have zqa:=trivial;exact Ved
theorem Vhd:Vee [] noteN=0:=dC
theorem Vhj:Vel [] noteN=true:=dC
theorem Vhl:Vek [] noteN=[noteN]:=by unfold Vek;rw[if_pos Vhd];rfl
theorem Vhe:Vee [noteN] noteN=0:=dC
theorem Vhb:Vel [noteN] noteN=false:=dC
theorem Vhm:Vek [noteN] noteN=[noteN]:=(Veg Vhe).2.2.2.2 Vhb
theorem Vhn:Vei [noteN] 0 9=0:=dC
theorem Vhk:Vez [noteN] 0 9=[noteN]:=by unfold Vez;rw[if_pos Vhn];rfl
theorem Vhp:Vd7 [noteN]=0:=dC
def Vft (l:List No) (b:Bool) (w:World) (e:Ending) (w':World):Prop:=
 ∃u,e= .returned (.tuple #[.agg #[u],.bool b,.int .i64 0])∧RSl RNo 4 (fun j=>w.heap.size≤j) w' u l∧Ext w w'
def Vgw (l:List No) (w:World) (e:Ending) (w':World):Prop:=∃u,e= .returned (.tuple #[u,.int .i64 0])∧RSl RNo 4 (fun j=>w.heap.size≤j) w' u l∧Ext w w'
section
variable {F G:Nat→Prop} {w:World} {v:Value} {cs:List Value}
theorem Vgm (k:RNo G w cs noteN):Calls Tryz.prog 39 #[.agg #[.slice none 0 0],.agg cs.toArray] w (Vft [noteN] true w):=by
 have h:=Vey (F:=fun _=>True) (l:=[]) (RSl.nil_ (a:=none) (Nat.zero_le _)) k;exact h.mono fun e w' ⟨u,he,hu,hx⟩=>⟨u,by rw[he,Vhj,Vhd],by rw[Vhl] at hu;exact hu,hx⟩
theorem Vgn (h:RSl RNo 4 F w v [noteN]) (k:RNo G w cs noteN):Calls Tryz.prog 39 #[.agg #[v],.agg cs.toArray] w (Vft [noteN] false w):=by
 have h:=Vey h k;exact h.mono fun e w' ⟨u,he,hu,hx⟩=>⟨u,by rw[he,Vhb,Vhe],by rw[Vhm] at hu;exact hu,hx⟩
theorem Vg2 (h:RSl RNo 4 F w v [noteN]):Calls Tryz.prog 40 #[.agg #[v],.int .i64 0,.int .i64 9] w (Vgw [noteN] w):=by
 have h:=Vfk (c:=0) (m:=9) h (Qal sI sI) (Qal sI sI);exact h.mono fun e w' ⟨u,he,hu,hx⟩=>⟨u,by rw[he,Vhn],by rw[Vhk] at hu;exact hu,hx⟩
theorem Vhc (h:RSl RNo 4 F w v [noteN]):Calls Tryz.prog 70 #[.agg #[v]] w fun e w'=>e= .returned (.int .i64 0)∧Ext w w':=by
 have h:=Vd9 h;rw[Vhp] at h;exact h
end
theorem Vet (w:World):Calls Tryz.prog 23 #[] w fun e w'=>e= .returned (.bool true)∧Ext w w':=by
 go_enter Tryz.func23,Tryz.ntmps23;go_wp2_with (first|(go_at_call 71;go_must ((with_reducible refine(Q28 _).mono ?_);rintro e w1 ⟨a1,n1,c1,b1,m1,d1,rfl,hn1,hx1⟩;have HN1:=hH hn1;clear hn1;have HX1:=xY w hx1))|(go_at_call 39;go_must ((with_reducible refine(Vgm (gNo.ext HN1.o Qac)).mono ?_);rintro e w2 ⟨u2,rfl,hu2,hx2⟩;obtain⟨a2,n2,c2,rfl⟩:=hu2.slice;obtain rfl:n2=1:=hu2.len.1;have HV2:=hH hu2;have HX2:=xX HX1 hx2;clear hu2)))
 refine Qad (fun W1 eW1=> ?_);have e0:=rL eW1 ⟨w2.heap.size,0,none⟩ (.slice a2 1 c2);have HW1:=hH (show Ext w W1 by rw[eW1];exact ext_trans HX2.o Qac);have HR1:=hH (show RSl RNo 4 (fun _=>True) W1 (.slice a2 1 c2) [noteN] from RSl.more gNo (fun _ _ _=>trivial) (HV2.o.ext gNo (by rw[eW1];exact Qac)));have hr1:w2.heap.size<W1.heap.size:=World.block_lt_of_cell? _ _ e0;clear eW1 HN1 HX1 hx1 hx2 HX2 HV2;generalize w2.heap.size=rb at *;go_cut [4,5,6] from 9 (fun s4 s5 s6 wx=>s5= .bool false∧s6= .int .i64 0∧∃(ob:Nat) (a4:Option Addr) (c4:Nat),s4= .pointer (some ⟨ob,0,none⟩)∧wx.cell? ⟨ob,0,none⟩=some (.slice a4 1 c4)∧Hid (RSl RNo 4 (fun _=>True) wx (.slice a4 1 c4) [noteN])∧Hid (Ext W1 wx))
 case first=>
  go_region_law (first
   |(go_simp;go_at_call 71;go_must ((with_reducible refine(Q28 _).mono ?_);rintro e w3 ⟨a3,n3,c3,b3,m3,d3,rfl,hn3,hx3⟩;have HN3:=hH hn3;clear hn3;have HX3:=xY W1 hx3;have q0:=(HX3.o.cells rb 0 hr1).trans e0;have hq3:rb<w3.heap.size:=World.block_lt_of_cell? _ _ q0;(try(refine Qaw (T:=w3.cell? ⟨W1.heap.size,0,none⟩=some (.slice none 0 0)) ?_ (fun mc=> ?_);(focus(refine Eq.trans (hx3.cells (W1.heap.size) 0 ?_) ?_;(focus((first|omega|(simp<;>omega));done));(focus((first|(with_reducible assumption)|go_simp);done));done))));(try(refine Qaw (T:=w3.frozen? ⟨W1.heap.size,0,none⟩=false) ?_ (fun mf=> ?_);(focus(refine Eq.trans (hx3.frz (W1.heap.size) 0 ?_) ?_;(focus((first|omega|(simp<;>omega));done));(focus((first|(with_reducible assumption)|go_simp);done));done))));(try(refine Qaw (T:=W1.heap.size<w3.heap.size) ?_ (fun ml=> ?_);(focus(first|omega|(have h9:=World.block_lt_of_cell? _ _ mc;exact h9)))))))
   |(go_simp;go_at_call 39;go_must ((with_reducible refine(Vgn (HR1.o.ext gNo (ext_trans HX3.o Qac)) (gNo.ext HN3.o Qac)).mono ?_);rintro e w4 ⟨u4,rfl,hu4,hx4⟩;obtain⟨a4,n4,c4,rfl⟩:=hu4.slice;obtain rfl:n4=1:=hu4.len.1;have HV4:=hH hu4;have HX4:=xX HX3 hx4;clear hu4;have p0:=(HX4.o.cells rb 0 hr1).trans e0;have hp4:rb<w4.heap.size:=World.block_lt_of_cell? _ _ p0;(try(refine Qaw (T:=w4.cell? ⟨W1.heap.size,0,none⟩=some (.slice none 0 0)) ?_ (fun nc=> ?_);(focus(refine Eq.trans (hx4.cells (W1.heap.size) 0 ?_) ?_;(focus((first|omega|(simp<;>omega));done));(focus((first|(with_reducible assumption)|go_simp);done));done))));(try(refine Qaw (T:=w4.frozen? ⟨W1.heap.size,0,none⟩=false) ?_ (fun nf=> ?_);(focus(refine Eq.trans (hx4.frz (W1.heap.size) 0 ?_) ?_;(focus((first|omega|(simp<;>omega));done));(focus((first|(with_reducible assumption)|go_simp);done));done))));(try(refine Qaw (T:=W1.heap.size<w4.heap.size) ?_ (fun nl=> ?_);(focus(first|omega|(have h9:=World.block_lt_of_cell? _ _ nc;exact h9)))));(try(refine Qaw (T:=w4.cell? ⟨w3.heap.size,0,none⟩=some (.slice none 0 0)) ?_ (fun kc=> ?_);(focus(refine Eq.trans (hx4.cells (w3.heap.size) 0 ?_) ?_;(focus((first|omega|(simp<;>omega));done));(focus((first|(with_reducible assumption)|go_simp);done));done))));(try(refine Qaw (T:=w4.frozen? ⟨w3.heap.size,0,none⟩=false) ?_ (fun kf=> ?_);(focus(refine Eq.trans (hx4.frz (w3.heap.size) 0 ?_) ?_;(focus((first|omega|(simp<;>omega));done));(focus((first|(with_reducible assumption)|go_simp);done));done))));(try(refine Qaw (T:=w3.heap.size<w4.heap.size) ?_ (fun kl=> ?_);(focus(first|omega|(have h9:=World.block_lt_of_cell? _ _ kc;exact h9))))))))
  all_goals (go_wp2_with fail;go_meet)
  all_goals
   have hX4:=HX4.o;have hs3:=HX3.o.size;refine⟨rfl,rfl,_,a4,c4,rfl,by first|(with_reducible assumption)|go_simp,?_,hH Qac⟩;first
    |exact hH (RSl.more gNo (fun _ _ _=>trivial) (RSl.keep gNo (Qae Qag (by intro _ h;have h':=h;first|(simp at h';done)|(simp at h';omega)|omega) _) HV4.o))
    |exact hH (RSl.more gNo (fun _ _ _=>trivial) (RSl.ext gNo HV4.o Qac))
 case rest=>
  obtain⟨rfl,rfl,ob,a4,c4,rfl,y0,HR2,HX3⟩:=hcut;have y1:=(HX3.o.cells rb 0 hr1).trans e0;have ho1:ob<wc.heap.size:=World.block_lt_of_cell? _ _ y0;have ho2:rb<wc.heap.size:=World.block_lt_of_cell? _ _ y1;have HXW:=hH (ext_trans HW1.o HX3.o);go_wp2_with (first|(go_at_call 40;go_must ((with_reducible refine(Vg2 (HR1.o.ext gNo (ext_trans HX3.o Qac))).mono ?_);rintro e w5 ⟨u5,rfl,hu5,hx5⟩;obtain⟨a5,n5,c5,rfl⟩:=hu5.slice;obtain rfl:n5=1:=hu5.len.1;have HV5:=hH hu5;have hz5:=hx5.size;(try simp at hz5);have ya5:=cL hx5 rb 0 (.slice a2 1 c2);have yb5:=cL hx5 ob 0 (.slice a4 1 c4);have hra5:rb<w5.heap.size:=oM;have hrb5:ob<w5.heap.size:=oM;have HX5:=xY wc hx5;clear hu5))|(go_at_call 70;go_must ((with_reducible refine(Vhc (HR1.o.ext gNo (ext_trans HX3.o (ext_trans HX5.o Qac)))).mono ?_);rintro e w6 ⟨rfl,hx6⟩;have hz6:=hx6.size;(try simp at hz6);have ya6:=cL hx6 rb 0 (.slice a2 1 c2);have yb6:=cL hx6 ob 0 (.slice a4 1 c4);have hra6:rb<w6.heap.size:=oM;have hrb6:ob<w6.heap.size:=oM;have HX6:=xX HX5 hx6;have HX65:=xY w5 hx6))|(go_at_call 60;((with_reducible refine(Qlk (HR2.o.ext gNo (ext_trans HX6.o Qac)) (HR1.o.ext gNo (ext_trans HX3.o (ext_trans HX6.o Qac)))).mono ?_);rintro e w7 ⟨rfl,hx7⟩;have hz7:=hx7.size;(try simp at hz7);have HX7:=xX HX6 hx7;have HX75:=xX HX65 hx7;clear HR2))|(go_at_call 71;go_must ((with_reducible refine(Q28 _).mono ?_);rintro e w8 ⟨a8,n8,c8,b8,m8,d8,rfl,hn8,hx8⟩;have HN8:=hH hn8;clear hn8;have hz8:=hx8.size;(try simp at hz8);have HX8:=xX HX7 hx8;have HX85:=xX HX75 hx8))|(go_at_call 60;go_must ((with_reducible refine(Qlk (HV5.o.ext gNo (ext_trans HX85.o Qac)) (Qlh (b:=w8.heap.size) rfl (Qis asG asG asG asG) (gNo.ext (gNo.all HN8.o) Qac) trivial ltA (Nat.le_refl _) mO)).mono ?_);rintro e w9 ⟨rfl,hx9⟩;have HX9:=xX HX8 hx9)))
  go_ret;exact⟨rfl,ext_trans HXW.o (ext_trans HX9.o Qac)⟩
end Go.Proofs.YtgnccjojfebkeaaGreat
