/- DeskTwo, walked. -/
import Derived.Test.YtgnccjojfebkeaaGreatQa0ce884d35
import Derived.Test.YtgnccjojfebkeaaGreatQe7ae9feb46
import Derived.Test.YtgnccjojfebkeaaGreatQ67e18446e6
import Derived.Test.YtgnccjojfebkeaaGreatQ453a98ae2d
import Derived.BigRegion
import Derived.Test.YtgnccjojfebkeaaGreatQ4239c03973
import Derived.Test.YtgnccjojfebkeaaGreatQa4df953a1d
import Derived.Test.YtgnccjojfebkeaaGreatQc3a1870f38
import Derived.Test.YtgnccjojfebkeaaGreatQ24f261057a
import Derived.Test.YtgnccjojfebkeaaGreatQ0113298620
set_option linter.unusedVariables false
set_option linter.unusedSimpArgs false
set_option maxRecDepth 100000
set_option maxHeartbeats 4000000
namespace Go.Proofs.YtgnccjojfebkeaaGreat
open Go Go.RowKit Go.BigFrame Cp
structure Two (X Y:Dk):Prop where
 rX:RightK X
 rY:RightK Y
 sX:X.site=3
 sY:Y.site=4
 oX:X.out=[]
 oY:Y.out=[]
 same:X.waits=[]→Y.waits=[]→X.state=Y.state∧X.seen=Y.seen
theorem Vfo:Two (Vam 3) (Vam 4):=⟨Ved dC dC,Ved dC dC,rfl,rfl,rfl,rfl,fun _ _=>⟨rfl,rfl⟩⟩
theorem Ve7 {s:Int} (h0:0≤s) (h4:s≤4) {n:No} (hN:Qa0 n=0) (h3:n.site≠s) (h:Q3r (Vam s) n=0) (hw:(Van (Vam s) n).waits=[]):
  Qfc ([],[]) n.deeds=some (Van (Vam s) n).state∧(Van (Vam s) n).seen=Qd3 [0,0,0,0,0] n.site.toNat:=by
 have hR:=checkN_right.1 hN;have hd:=Ved h0 h4;have hz:atI [0,0,0,0,0] n.site.toNat=0:=by
  have h5:n.site.toNat<5:=by have:=hR.site;omega
  match n.site.toNat,h5 with
  |0,_=>rfl
  |1,_=>rfl
  |2,_=>rfl
  |3,_=>rfl
  |4,_=>rfl
  |k+5,h=>omega
 have ho:Qva (Vam s) n=false:=oldK_false.2 ⟨h3,by show atI [0,0,0,0,0] n.site.toNat<n.number;rw[hz];have:=hR.number;omega,rfl⟩;have hE:Q3r (Vam s) n=Q2d (Vam s) n:=by unfold Q3r;rw[if_neg (by simpa using checkK_ok.2 hd),if_neg (by simpa using hN)]
 have ha:Qfq (Vam s) n=false:=by
  cases g:Qfq (Vam s) n with
  |false=>rfl
  |true=>rw[hE] at h;unfold Q2d at h;rw[if_neg (by rw[ho];simp),if_pos g] at h;cases h
 cases hr:Qb5 [0,0,0,0,0] n with
 |true=>
  obtain⟨t1,t2⟩:=Vey hN hd ho ha rfl hr;cases hdo:Qfc ([],[]) n.deeds with
  |none=>
   have:Qfc (Vam s).state n.deeds=none:=hdo;rw[this] at t1;rw[t1] at h;cases h
  |some t=>
   obtain⟨e1,e2⟩:=t2 t hdo;exact⟨by rw[e1],e2⟩
 |false=>
  exfalso
  have hv:Van (Vam s) n=(Vbj (Vam s) n).getD (Vam s):=by
   unfold Van;rw[if_pos h];unfold Q55;rw[if_neg (by rw[ho];simp)]
  have hg:Vbj (Vam s) n=some (Q4y (Vam s) n):=by
   unfold Vbj;have hwa:(Q4y (Vam s) n).waits=[n]:=rfl;have hf:(Q4y (Vam s) n).waits.findIdx? (Qb5 (Q4y (Vam s) n).seen)=none:=by
    rw[hwa];have:Qb5 (Q4y (Vam s) n).seen n=false:=hr;simp[List.findIdx?_cons,this]
   show Qkp (0+2) (Q4y (Vam s) n)=_
   unfold Qkp;rw[hf]
  rw[hv,hg] at hw;exact absurd (show [n]=[] from hw) sI
theorem Vfp {n:No} (hN:Qa0 n=0) (h3:n.site<3) (he:Q3r (Vam 3) n=0) (hf:Q3r (Vam 4) n=0):Two (Van (Vam 3) n) (Van (Vam 4) n):=by
 obtain⟨a1,a2,a3,_⟩:=Veo he;obtain⟨b1,b2,b3,_⟩:=Veo hf;refine⟨a1,b1,a2,b2,a3,b3,fun wX wY=> ?_⟩;obtain⟨e1,e2⟩:=Ve7 dC dC hN oM he wX;obtain⟨f1,f2⟩:=Ve7 dC dC hN oM hf wY;exact⟨Option.some.inj (e1.symm.trans f1),e2.trans f2.symm⟩
theorem Zbk {p:Prop} (h:p:=by
 go_wp2_with (first|(go_at_call 29;go_must ((with_reducible refine(HCN.o _ (ext_trans HW1.o Qac)).mono ?_);rintro e w4 ⟨rfl,hx4⟩;obtain⟨m4_0,m4_1,m4_2,m4_3⟩:=cC4 hx4 (w.heap.size) (.int .i64 n.site) (.int .i64 n.number) (.slice a6 n6 k6) (.slice a7 n7 k7);have hz4:=hx4.size;(try simp at hz4);have hm4:=zL hx4 w.heap.size;have HX4:=xY W1 hx4;clear hx4)))
 go_meet
 exact⟨by rw[hres],hH (ext_trans HX4.o Qac)⟩):p:=h
theorem Zbj {p:Prop} (h:p:=by
 go_wp2_with (first|(go_at_call 35;((with_reducible refine(HTX.o _ Qac).mono ?_);rintro e w7 ⟨pa1,pn1,pc1,pa2,pn2,pc2,pa3,pn3,pc3,pa4,pn4,pc4,pa5,pn5,pc5,rfl,hd7,hx7⟩;obtain⟨t7_0,t7_1,t7_2,t7_3,t7_4,t7_5,t7_6⟩:=cC7 hx7 (by_) (.int .i64 Y.site) (.slice ta1 tn1 tc1) (.slice ta2 tn2 tc2) (.slice ta3 tn3 tc3) (.slice ta4 Y.waits.length tc4) (.int .i64 Y.clock) (.slice ta5 tn5 tc5);have hz7:=hx7.size;(try simp at hz7);have hxx7:=zL hx7 bx;have hyy7:=zL hx7 by_;have HX7:=xY wc hx7;have HD7:=hH hd7;clear hd7 hx7))|(go_at_call 35;go_must ((with_reducible refine(HTY.o _ (ext_trans HX7.o Qac)).mono ?_);rintro e w8 ⟨qa1,qn1,qc1,qa2,qn2,qc2,qa3,qn3,qc3,qa4,qn4,qc4,qa5,qn5,qc5,rfl,hd8,hx8⟩;obtain⟨v8_0,v8_1,v8_2,v8_3,v8_4,v8_5,v8_6⟩:=cC7 hx8 (w7.heap.size) (.int .i64 dp.site) (.slice pa1 pn1 pc1) (.slice pa2 pn2 pc2) (.slice pa3 pn3 pc3) (.slice pa4 pn4 pc4) (.int .i64 dp.clock) (.slice pa5 pn5 pc5);have hz8:=hx8.size;(try simp at hz8);have hbb8:=zL hx8 w7.heap.size;have hcf8:=fun(o:Nat)=>(hx8.frz (w7.heap.size) o ltA).trans (show _=false by go_simp);have HX78:=xY w7 hx8;have HX8:=xX HX7 hx8;have HD8:=hH hd8;clear hd8 hx8)))
 go_ret;exact⟨rfl,ext_trans HW.o (ext_trans HX8.o Qac)⟩):p:=h
theorem Zbi {p:Prop} (h:p:=by
 go_wp2_with (first|(go_at_call 31;((with_reducible refine(HR3.o _ Qac).mono ?_);rintro e w5 ⟨pa1,pn1,pc1,pa2,pn2,pc2,pa3,pn3,pc3,pa4,pn4,pc4,pa5,pn5,pc5,rfl,hd5,hx5⟩;obtain⟨m5_0,m5_1,m5_2,m5_3⟩:=cC4 hx5 (w.heap.size) (.int .i64 n.site) (.int .i64 n.number) (.slice a6 n6 k6) (.slice a7 n7 k7);obtain⟨t5_0,t5_1,t5_2,t5_3,t5_4,t5_5,t5_6⟩:=cC7 hx5 (by_) (.int .i64 (Vam 4).site) (.slice ya1 yn1 yc1) (.slice ya2 yn2 yc2) (.slice ya3 yn3 yc3) (.slice ya4 yn4 yc4) (.int .i64 (Vam 4).clock) (.slice ya5 yn5 yc5);have hz5:=hx5.size;(try simp at hz5);have hm5:=zL hx5 w.heap.size;have hxx5:=zL hx5 bx;have hyy5:=zL hx5 by_;have HX5:=xY wc hx5;have HD5:=hH hd5;clear hd5 hx5))|(go_at_call 31;go_must ((with_reducible refine(HR4.o _ (ext_trans HX5.o Qac)).mono ?_);rintro e w6 ⟨qa1,qn1,qc1,qa2,qn2,qc2,qa3,qn3,qc3,qa4,qn4,qc4,qa5,qn5,qc5,rfl,hd6,hx6⟩;obtain⟨v6_0,v6_1,v6_2,v6_3,v6_4,v6_5,v6_6⟩:=cC7 hx6 (w5.heap.size) (.int .i64 dp.site) (.slice pa1 pn1 pc1) (.slice pa2 pn2 pc2) (.slice pa3 pn3 pc3) (.slice pa4 pn4 pc4) (.int .i64 dp.clock) (.slice pa5 pn5 pc5);have hz6:=hx6.size;(try simp at hz6);have hxx6:=zL hx6 bx;have hyy6:=zL hx6 by_;have hb6:=zL hx6 w5.heap.size;have hcf6:=fun(o:Nat)=>(hx6.frz (w5.heap.size) o ltA).trans (show _=false by go_simp);have HX56:=xY w5 hx6;have HX6:=xX HX5 hx6;have HD6:=hH hd6;clear hd6 hx6)))
 go_ret;exact⟨rfl,ext_trans HW1.o (ext_trans HX6.o Qac)⟩):p:=h
theorem Vet {F:Nat→Prop} {w:World} {cs:List Value} {n:No} {u v:ByteArray} {p:Int} (k:RNo F w cs n) (hu:u.size≤140737488351232) (hv:v.size≤140737488351232) (ip:I64 p):
  Calls Tryz.prog 9 #[.agg cs.toArray,.string u,.string v,.int .i64 p] w fun e w'=>e= .returned (.bool true)∧Ext w w':=by
 have HCN:=hH (fun(W:World) (hx:Ext w W)=>Qrs (gNo.ext k hx));have HNO:=hH (fun(W:World) (hx:Ext w W)=>gNo.ext k hx);have HN3:=hH (fun(W:World)=>(Q6m (site:=3) (Qal dC dC) W).mono fun _ _ h=>Vej h);have HN4:=hH (fun(W:World)=>(Q6m (site:=4) (Qal dC dC) W).mono fun _ _ h=>Vej h);rw[show Vdx 3=Vam 3 from rfl,show Vdw 3=0 from rfl] at HN3;rw[show Vdx 4=Vam 4 from rfl,show Vdw 4=0 from rfl] at HN4;obtain⟨v6,v7,rfl,i6,i7,k6r,k7r⟩:=k;obtain⟨a6,n6,k6,rfl⟩:=k6r.slice;obtain⟨a7,n7,k7,rfl⟩:=k7r.slice;clear k6r k7r i6 i7;go_enter Tryz.func9,Tryz.ntmps9;go_upto_region 7 with(first|(go_at_call 22;go_must ((with_reducible refine(Qhs _).mono ?_);rintro e w1 ⟨rfl,hx1⟩;obtain⟨m1_0,m1_1,m1_2,m1_3⟩:=cC4 hx1 (w.heap.size) (.int .i64 n.site) (.int .i64 n.number) (.slice a6 n6 k6) (.slice a7 n7 k7);have hz1:=hx1.size;(try simp at hz1);have hm1:=zL hx1 w.heap.size;have HX1:=xY w hx1;clear hx1))|(go_at_call 54;((with_reducible refine(HN3.o _).mono ?_);rintro e w2 ⟨xa1,xn1,xc1,xa2,xn2,xc2,xa3,xn3,xc3,xa4,xn4,xc4,xa5,xn5,xc5,rfl,hd2,hx2⟩;obtain⟨m2_0,m2_1,m2_2,m2_3⟩:=cC4 hx2 (w.heap.size) (.int .i64 n.site) (.int .i64 n.number) (.slice a6 n6 k6) (.slice a7 n7 k7);have hz2:=hx2.size;(try simp at hz2);have hm2:=zL hx2 w.heap.size;have HX2:=xX HX1 hx2;have HD2:=hH hd2;clear hd2 hx2))|(go_at_call 54;go_must ((with_reducible refine(HN4.o _).mono ?_);rintro e w3 ⟨ya1,yn1,yc1,ya2,yn2,yc2,ya3,yn3,yc3,ya4,yn4,yc4,ya5,yn5,yc5,rfl,hd3,hx3⟩;obtain⟨m3_0,m3_1,m3_2,m3_3⟩:=cC4 hx3 (w.heap.size) (.int .i64 n.site) (.int .i64 n.number) (.slice a6 n6 k6) (.slice a7 n7 k7);obtain⟨c3_0,c3_1,c3_2,c3_3,c3_4,c3_5,c3_6⟩:=cC7 hx3 (w2.heap.size) (.int .i64 (Vam 3).site) (.slice xa1 xn1 xc1) (.slice xa2 xn2 xc2) (.slice xa3 xn3 xc3) (.slice xa4 xn4 xc4) (.int .i64 (Vam 3).clock) (.slice xa5 xn5 xc5);have hz3:=hx3.size;(try simp at hz3);have hm3:=zL hx3 w.heap.size;have hb3:=zL hx3 w2.heap.size;have hcf3:=fun(o:Nat)=>(hx3.frz (w2.heap.size) o ltA).trans (show _=false by go_simp);have HX23:=xY w2 hx3;have HX3:=xX HX2 hx3;have HD3:=hH hd3;clear hd3 hx3)))
 refine Qad (fun W1 eW1=> ?_);obtain⟨n0,n1,n2,n3⟩:=rR4 eW1 w.heap.size (.int .i64 n.site) (.int .i64 n.number) (.slice a6 n6 k6) (.slice a7 n7 k7);have HW1:=hH (show Ext w W1 by rw[eW1];exact ext_trans HX3.o Qac);have HXX0:=hH (show DkAt (fun _=>True) (w2.heap.size) (Vam 3) W1 (.slice xa1 xn1 xc1) (.slice xa2 xn2 xc2) (.slice xa3 xn3 xc3) (.slice xa4 xn4 xc4) (.slice xa5 xn5 xc5) from⟨by rw[eW1];go_simp,by rw[eW1];go_simp,by rw[eW1];go_simp,by rw[eW1];go_simp,by rw[eW1];go_simp,by rw[eW1];go_simp,by rw[eW1];go_simp,fun o=>by have hq:=hcf3 o;rw[eW1];go_simp,gDk.ext (gDk.more (fun k hk hl=>trivial) HD2.o) (show Ext w2 W1 by rw[eW1];exact ext_trans HX23.o Qac)⟩);have HXX:=hH (HXX0.o);have HYY:=hH (show DkAt (fun _=>True) (w3.heap.size) (Vam 4) W1 (.slice ya1 yn1 yc1) (.slice ya2 yn2 yc2) (.slice ya3 yn3 yc3) (.slice ya4 yn4 yc4) (.slice ya5 yn5 yc5) from⟨by rw[eW1];go_simp,by rw[eW1];go_simp,by rw[eW1];go_simp,by rw[eW1];go_simp,by rw[eW1];go_simp,by rw[eW1];go_simp,by rw[eW1];go_simp,fun o=>by rw[eW1];go_simp,gDk.ext (gDk.more (fun k hk hl=>trivial) HD3.o) (show Ext w3 W1 by rw[eW1];exact Qac)⟩);have zx1:=HXX.o.lt;have zy1:=HYY.o.lt;have hxy:w2.heap.size≠w3.heap.size:=Nat.ne_of_lt hb3;have HNW:=hH (World.block_lt_of_cell? _ _ n0);have hnw0:=HNW.o;have hxw:w.heap.size≤w2.heap.size:=HX2.o.size;have hyw:w.heap.size≤w3.heap.size:=HX3.o.size;clear eW1 HX1 HX2 HX3 HX23 HD2 HD3 HN3 HN4 hcf3 c3_0 c3_1 c3_2 c3_3 c3_4 c3_5 c3_6 m3_0 m3_1 m3_2 m3_3;generalize w2.heap.size=bx at *;generalize w3.heap.size=by_ at *;go_cut [44] from 37 to 44 (fun s wx=>s= .bool (decide (Qa0 n=0∧n.site<3))∧Hid (Ext W1 wx))
 case first=>
  by_cases hcn:Qa0 n=0
  ·rw[hcn] at HCN;by_cases h3:n.site<3
   ·have t9:decide (n.site<3)=true:=decide_eq_true h3;have hres:=decide_eq_true (And.intro hcn h3);clear hcn h3;exact Zbk
   ·have t9:decide (n.site<3)=false:=decide_eq_false h3;have hres:=decide_eq_false (fun h:Qa0 n=0∧n.site<3=>h3 h.2);clear hcn h3;exact Zbk
  ·have t9:(Qa0 n==0)=false:=by simpa using hcn
   have hres:=decide_eq_false (fun h:Qa0 n=0∧n.site<3=>hcn h.1);generalize decide (Qa0 n=0∧n.site<3)=g at *;clear hcn;generalize Qa0 n=cn at *;exact Zbk
 case rest=>
  obtain⟨hs,HXM⟩:=hcut;subst hs;have n0':=(HXM.o.cells _ _ HNW.o).trans n0;have n1':=(HXM.o.cells _ _ HNW.o).trans n1;have n2':=(HXM.o.cells _ _ HNW.o).trans n2;have n3':=(HXM.o.cells _ _ HNW.o).trans n3;have HXX:=hH (HXX.o.ext HXM.o);have HYY:=hH (HYY.o.ext HXM.o);have HW1:=hH (ext_trans HW1.o HXM.o);have hnw:=Nat.lt_of_lt_of_le HNW.o HXM.o.size;have zx1:=HXX.o.lt;have zy1:=HYY.o.lt;clear n0 n1 n2 n3 HXM HCN HNW;obtain⟨g,hg0⟩:∃g:Bool,decide (Qa0 n=0∧n.site<3)=g:=⟨_,rfl⟩;rw[hg0];go_upto_if 44 with(fail)
  go_cut [13,14,15,16] from 45 to 64 (fun s13 s14 s15 s16 wx=>∃(X Y:Dk) (x1 x2 x3 x4 x5 y1 y2 y3 y4 y5:Value),Hid (Two X Y)∧Hid (DkAt (fun _=>True) bx X wx x1 x2 x3 x4 x5)∧Hid (DkAt (fun _=>True) by_ Y wx y1 y2 y3 y4 y5)∧Hid (Ext w wx))
  case first=>
   obtain⟨s0,s1,s2,s3,s4,s5,s6⟩:=HXX.o.seven;obtain⟨t0,t1,t2,t3,t4,t5,t6⟩:=HYY.o.seven;cases g with
   |true=>
    obtain⟨hcn,h3⟩:=of_decide_eq_true hg0;clear hg0
    ·skip
     have HR3:=hH (fun(W:World) (hx:Ext wc W)=>(Qwp (gDk.ext HXX.o.read hx) (HNO.o W (ext_trans HW1.o hx))).mono fun _ _ h=>Vej h);have HR4:=hH (fun(W:World) (hx:Ext wc W)=>(Qwp (gDk.ext HYY.o.read hx) (HNO.o W (ext_trans HW1.o hx))).mono fun _ _ h=>Vej h);obtain⟨e3,he3⟩:∃x:Int,Q3r (Vam 3) n=x:=⟨_,rfl⟩;obtain⟨e4,he4⟩:∃x:Int,Q3r (Vam 4) n=x:=⟨_,rfl⟩;obtain⟨dp,hdp⟩:∃x:Dk,Van (Vam 3) n=x:=⟨_,rfl⟩;obtain⟨dq,hdq⟩:∃x:Dk,Van (Vam 4) n=x:=⟨_,rfl⟩;rw[he3,hdp] at HR3;rw[he4,hdq] at HR4;have HT2:=hH (fun(q3:e3=0) (q4:e4=0)=>(show Two dp dq from hdp▸hdq▸Vfp hcn h3 (he3.trans q3) (he4.trans q4)));clear hcn h3 he3 he4 hdp hdq;by_cases q3:e3=0
     ·have t10:(e3 !=0)=false:=by simp[q3]
      by_cases q4:e4=0
      ·have t11:(e4 !=0)=false:=by simp[q4]
       have HT3:=hH (HT2.o q3 q4);clear HT2 q3 q4;go_upto_region 12 with(first|(go_at_call 31;((with_reducible refine(HR3.o _ Qac).mono ?_);rintro e w5 ⟨pa1,pn1,pc1,pa2,pn2,pc2,pa3,pn3,pc3,pa4,pn4,pc4,pa5,pn5,pc5,rfl,hd5,hx5⟩;obtain⟨m5_0,m5_1,m5_2,m5_3⟩:=cC4 hx5 (w.heap.size) (.int .i64 n.site) (.int .i64 n.number) (.slice a6 n6 k6) (.slice a7 n7 k7);obtain⟨t5_0,t5_1,t5_2,t5_3,t5_4,t5_5,t5_6⟩:=cC7 hx5 (by_) (.int .i64 (Vam 4).site) (.slice ya1 yn1 yc1) (.slice ya2 yn2 yc2) (.slice ya3 yn3 yc3) (.slice ya4 yn4 yc4) (.int .i64 (Vam 4).clock) (.slice ya5 yn5 yc5);have hz5:=hx5.size;(try simp at hz5);have hm5:=zL hx5 w.heap.size;have hxx5:=zL hx5 bx;have hyy5:=zL hx5 by_;have HX5:=xY wc hx5;have HD5:=hH hd5;clear hd5 hx5))|(go_at_call 31;go_must ((with_reducible refine(HR4.o _ (ext_trans HX5.o Qac)).mono ?_);rintro e w6 ⟨qa1,qn1,qc1,qa2,qn2,qc2,qa3,qn3,qc3,qa4,qn4,qc4,qa5,qn5,qc5,rfl,hd6,hx6⟩;obtain⟨v6_0,v6_1,v6_2,v6_3,v6_4,v6_5,v6_6⟩:=cC7 hx6 (w5.heap.size) (.int .i64 dp.site) (.slice pa1 pn1 pc1) (.slice pa2 pn2 pc2) (.slice pa3 pn3 pc3) (.slice pa4 pn4 pc4) (.int .i64 dp.clock) (.slice pa5 pn5 pc5);have hz6:=hx6.size;(try simp at hz6);have hxx6:=zL hx6 bx;have hyy6:=zL hx6 by_;have hb6:=zL hx6 w5.heap.size;have hcf6:=fun(o:Nat)=>(hx6.frz (w5.heap.size) o ltA).trans (show _=false by go_simp);have HX56:=xY w5 hx6;have HX6:=xX HX5 hx6;have HD6:=hH hd6;clear hd6 hx6)))
       refine Qad (fun W2 eW2=> ?_);have HX12:=hH (show Ext wc W2 by rw[eW2];exact ext_trans HX6.o Qac);have HPP:=hH (show DkAt (fun k=>k≠bx∧k≠by_) (w5.heap.size) dp W2 (.slice pa1 pn1 pc1) (.slice pa2 pn2 pc2) (.slice pa3 pn3 pc3) (.slice pa4 pn4 pc4) (.slice pa5 pn5 pc5) from⟨by rw[eW2];go_simp,by rw[eW2];go_simp,by rw[eW2];go_simp,by rw[eW2];go_simp,by rw[eW2];go_simp,by rw[eW2];go_simp,by rw[eW2];go_simp,fun o=>by have hq:=hcf6 o;rw[eW2];go_simp,gDk.ext (gDk.more (fun k hk hl=>⟨(by have hk':_≤k:=hk;(try simp at hk');omega),(by have hk':_≤k:=hk;(try simp at hk');omega)⟩) HD5.o) (show Ext w5 W2 by rw[eW2];exact ext_trans HX56.o Qac)⟩);have HQQ:=hH (show DkAt (fun k=>k≠bx∧k≠by_) (w6.heap.size) dq W2 (.slice qa1 qn1 qc1) (.slice qa2 qn2 qc2) (.slice qa3 qn3 qc3) (.slice qa4 qn4 qc4) (.slice qa5 qn5 qc5) from⟨by rw[eW2];go_simp,by rw[eW2];go_simp,by rw[eW2];go_simp,by rw[eW2];go_simp,by rw[eW2];go_simp,by rw[eW2];go_simp,by rw[eW2];go_simp,fun o=>by rw[eW2];go_simp,gDk.ext (gDk.more (fun k hk hl=>⟨(by have hk':_≤k:=hk;(try simp at hk');omega),(by have hk':_≤k:=hk;(try simp at hk');omega)⟩) HD6.o) (show Ext w6 W2 by rw[eW2];exact Qac)⟩);have HX2:=hH (HXX.o.ext HX12.o);have HY2:=hH (HYY.o.ext HX12.o);have HW2:=hH (ext_trans HW1.o HX12.o);have zp:=HPP.o.lt;have zq:=HQQ.o.lt;have hpx:¬w5.heap.size=bx:=fun e=>by have:=HX5.o.size;omega
       have hpy:¬w5.heap.size=by_:=fun e=>by have:=HX5.o.size;omega
       have hqx:¬w6.heap.size=bx:=fun e=>by have:=HX6.o.size;omega
       have hqy:¬w6.heap.size=by_:=fun e=>by have:=HX6.o.size;omega
       have hpx':¬bx=w5.heap.size:=fun e=>hpx e.symm
       have hpy':¬by_=w5.heap.size:=fun e=>hpy e.symm
       have hqx':¬bx=w6.heap.size:=fun e=>hqx e.symm
       have hqy':¬by_=w6.heap.size:=fun e=>hqy e.symm
       have hxy':¬bx=by_:=hxy;have hyx':¬by_=bx:=fun e=>hxy e.symm
       have hFx:¬(bx≠bx∧bx≠by_):=fun h=>h.1 rfl
       have hFy:¬(by_≠bx∧by_≠by_):=fun h=>h.2 rfl
       clear eW2 hcf6 HD5 HD6 HX5 HX6 HX56 HXX HYY HW1 t10 t11 HR3 HR4 HNO s0 t0 s1 t1 s2 t2 s3 t3 s4 t4 s5 t5 s6 t6;obtain⟨pq0,pq1,pq2,pq3,pq4,pq5,pq6⟩:=HPP.o.seven;obtain⟨qq0,qq1,qq2,qq3,qq4,qq5,qq6⟩:=HQQ.o.seven;obtain⟨c0,c1,c2,c3,c4,c5,c6⟩:=HX2.o.seven;obtain⟨d0,d1,d2,d3,d4,d5,d6⟩:=HY2.o.seven;obtain⟨f0,f1,f2,f3,f4,f5,f6⟩:=HX2.o.fz7;obtain⟨g0,g1,g2,g3,g4,g5,g6⟩:=HY2.o.fz7;have zx2:=HX2.o.lt;have zy2:=HY2.o.lt;go_region
       all_goals (go_wp2_with fail;go_meet)
       all_goals
        refine⟨dp,dq,(.slice pa1 pn1 pc1),(.slice pa2 pn2 pc2),(.slice pa3 pn3 pc3),(.slice pa4 pn4 pc4),(.slice pa5 pn5 pc5),(.slice qa1 qn1 qc1),(.slice qa2 qn2 qc2),(.slice qa3 qn3 qc3),(.slice qa4 qn4 qc4),(.slice qa5 qn5 qc5),HT3,hH (DkAt.more (F:=fun k=>k≠bx∧k≠by_) ?_ (fun _ _=>trivial)),hH (DkAt.more (F:=fun k=>k≠bx∧k≠by_) ?_ (fun _ _=>trivial)),hH ?_⟩
        ·repeat(first|(with_reducible refine DkAt.oth ?_ hyx' hFy _)|(with_reducible refine DkAt.drw ?_))
         refine BoxOk.put ?_ ?_ hFx
         ·repeat(first|(with_reducible refine BoxOk.oth ?_ hyx' _)|(with_reducible refine BoxOk.drw ?_))
          exact HX2.o.ok
         ·repeat(first|(with_reducible refine Vd9 ?_ hFx _)|(with_reducible refine Vd9 ?_ hFy _)|(with_reducible refine Ve9 ?_))
          exact HPP.o.rd
        ·repeat(first|(with_reducible refine DkAt.oth ?_ hxy' hFx _)|(with_reducible refine DkAt.drw ?_))
         refine BoxOk.put ?_ ?_ hFy
         ·repeat(first|(with_reducible refine BoxOk.oth ?_ hxy' _)|(with_reducible refine BoxOk.drw ?_))
          exact HY2.o.ok
         ·repeat(first|(with_reducible refine Vd9 ?_ hFx _)|(with_reducible refine Vd9 ?_ hFy _)|(with_reducible refine Ve9 ?_))
          exact HQQ.o.rd
        ·have hq:=HW2.o;exact Qac
      ·have t11:(e4 !=0)=true:=by simpa using q4
       clear HT2 q3 q4;exact Zbi
     ·have t10:(e3 !=0)=true:=by simpa using q3
      clear HT2 q3;exact Zbi
   |false=>
    clear hg0;go_wp2_with fail
    go_meet
    exact⟨Vam 3,Vam 4,_,_,_,_,_,_,_,_,_,_,hH Vfo,HXX,HYY,HW1⟩
  case rest=>
   clear n0' n1' n2' n3' hnw zx1 zy1 HXX HYY HW1 hg0 HNO;obtain⟨X,Y,x1,x2,x3,x4,x5,y1,y2,y3,y4,y5,HT,HXX,HYY,HW⟩:=hcut;obtain⟨hpa,hpg,hpq,hpw,hpo⟩:=HXX.o.parts;obtain⟨ra1,rn1,rc1,rfl⟩:=hpa.slice;obtain⟨ra2,rn2,rc2,rfl⟩:=hpg.slice;obtain⟨ra3,rn3,rc3,rfl⟩:=hpq.slice;obtain⟨ra4,rn4,rc4,rfl⟩:=hpw.slice;obtain⟨ra5,rn5,rc5,rfl⟩:=hpo.slice;obtain rfl:rn1=X.state.1.length:=hpa.len.1;obtain rfl:rn4=X.waits.length:=hpw.len.1;have HXA:=hH hpa;clear hpa hpg hpq hpw hpo;obtain⟨hpa,hpg,hpq,hpw,hpo⟩:=HYY.o.parts;obtain⟨ta1,tn1,tc1,rfl⟩:=hpa.slice;obtain⟨ta2,tn2,tc2,rfl⟩:=hpg.slice;obtain⟨ta3,tn3,tc3,rfl⟩:=hpq.slice;obtain⟨ta4,tn4,tc4,rfl⟩:=hpw.slice;obtain⟨ta5,tn5,tc5,rfl⟩:=hpo.slice;obtain rfl:tn4=Y.waits.length:=hpw.len.1;clear hpa hpg hpq hpw hpo;obtain⟨r0,r1,r2,r3,r4,r5,r6⟩:=HXX.o.seven;obtain⟨s0,s1,s2,s3,s4,s5,s6⟩:=HYY.o.seven;have zx:=HXX.o.lt;have zy:=HYY.o.lt;by_cases wX:X.waits.length=0
   ·have t1:decide ((0:Int)<(X.waits.length:Int))=false:=decide_eq_false oM;have t1b:decide (0<X.waits.length)=false:=decide_eq_false oM;by_cases wY:Y.waits.length=0
    ·have t2:decide ((0:Int)<(Y.waits.length:Int))=false:=decide_eq_false oM;have t2b:decide (0<Y.waits.length)=false:=decide_eq_false oM;have hwX:X.waits=[]:=List.length_eq_zero_iff.1 wX;have hwY:Y.waits=[]:=List.length_eq_zero_iff.1 wY;have HTX:=hH (fun(W:World) (hx:Ext wc W)=>(Qth (at_:=p) (u:=u) (gDk.ext HXX.o.read hx) ip hu).mono fun _ _ h=>Vbi h);have HTY:=hH (fun(W:World) (hx:Ext wc W)=>(Qth (at_:=p) (u:=v) (gDk.ext HYY.o.read hx) ip hv).mono fun _ _ h=>Vbi h);obtain⟨e1,he1⟩:∃x:Int,Qjg X p u.data.toList=x:=⟨_,rfl⟩;obtain⟨e2,he2⟩:∃x:Int,Qjg Y p v.data.toList=x:=⟨_,rfl⟩;obtain⟨dp,hdp⟩:∃x:Dk,Qj8 X p u.data.toList=x:=⟨_,rfl⟩;obtain⟨dq,hdq⟩:∃x:Dk,Qj8 Y p v.data.toList=x:=⟨_,rfl⟩;rw[he1,hdp] at HTX;rw[he2,hdq] at HTY;by_cases q1:e1=0
     ·have t3:(e1 !=0)=false:=by simp[q1]
      by_cases q2:e2=0
      ·have t4:(e2 !=0)=false:=by simp[q2]
       obtain⟨hsX,hsY⟩:=HT.o.same hwX hwY;obtain⟨_,_,st1,_,hwv1,_⟩:=Q7m (he1.trans q1);obtain⟨_,_,st2,_,hwv2,_⟩:=Q7m (he2.trans q2);obtain⟨M,hM⟩:∃M:No,M=Qnc X (Qj6 X.state p u.data.toList X.site X.clock):=⟨_,rfl⟩;obtain⟨N,hN⟩:∃N:No,N=Qnc Y (Qj6 Y.state p v.data.toList Y.site Y.clock):=⟨_,rfl⟩;have hop:dp.out=[M]:=by rw[←hdp,hwv1,hM];show X.out++_=_;rw[HT.o.oX];rfl
       have hoq:dq.out=[N]:=by rw[←hdq,hwv2,hN];show Y.out++_=_;rw[HT.o.oY];rfl
       have HLAW:=hH (Vfn HT.o.rX HT.o.rY (by rw[HT.o.sX,HT.o.sY];decide) hsX hsY hwX hwY (he1.trans q1) (he2.trans q2) hN hM);rw[hdp,hdq] at HLAW;have HP1:=hH (show dp.out.length=1 by rw[hop];rfl);have HQ1:=hH (show dq.out.length=1 by rw[hoq];rfl);have HOP:=hH hop;have HOQ:=hH hoq;clear hsX hsY hwv1 hwv2 hM hN hop hoq he1 he2 hdp hdq wX wY hwX hwY q1 q2;go_upto_region 19 with(first|(go_at_call 35;((with_reducible refine(HTX.o _ Qac).mono ?_);rintro e w7 ⟨pa1,pn1,pc1,pa2,pn2,pc2,pa3,pn3,pc3,pa4,pn4,pc4,pa5,pn5,pc5,rfl,hd7,hx7⟩;obtain⟨_,_,_,_,hpo7⟩:=Ven hd7;obtain rfl:pn5=1:=hpo7.len.1.trans HP1.o;clear hpo7;obtain⟨t7_0,t7_1,t7_2,t7_3,t7_4,t7_5,t7_6⟩:=cC7 hx7 (by_) (.int .i64 Y.site) (.slice ta1 tn1 tc1) (.slice ta2 tn2 tc2) (.slice ta3 tn3 tc3) (.slice ta4 Y.waits.length tc4) (.int .i64 Y.clock) (.slice ta5 tn5 tc5);have hz7:=hx7.size;(try simp at hz7);have hxx7:=zL hx7 bx;have hyy7:=zL hx7 by_;have HX7:=xY wc hx7;have HD7:=hH hd7;clear hd7 hx7))|(go_at_call 35;go_must ((with_reducible refine(HTY.o _ (ext_trans HX7.o Qac)).mono ?_);rintro e w8 ⟨qa1,qn1,qc1,qa2,qn2,qc2,qa3,qn3,qc3,qa4,qn4,qc4,qa5,qn5,qc5,rfl,hd8,hx8⟩;obtain⟨_,_,_,_,hpo8⟩:=Ven hd8;obtain rfl:qn5=1:=hpo8.len.1.trans HQ1.o;clear hpo8;obtain⟨v8_0,v8_1,v8_2,v8_3,v8_4,v8_5,v8_6⟩:=cC7 hx8 (w7.heap.size) (.int .i64 dp.site) (.slice pa1 pn1 pc1) (.slice pa2 pn2 pc2) (.slice pa3 pn3 pc3) (.slice pa4 pn4 pc4) (.int .i64 dp.clock) (.slice pa5 1 pc5);have hz8:=hx8.size;(try simp at hz8);have hbb8:=zL hx8 w7.heap.size;have hcf8:=fun(o:Nat)=>(hx8.frz (w7.heap.size) o ltA).trans (show _=false by go_simp);have HX78:=xY w7 hx8;have HX8:=xX HX7 hx8;have HD8:=hH hd8;clear hd8 hx8)))
       refine Qad (fun W3 eW3=> ?_);have HX3:=hH (show Ext wc W3 by rw[eW3];exact ext_trans HX8.o Qac);have HPP:=hH (show DkAt (fun _=>True) (w7.heap.size) dp W3 (.slice pa1 pn1 pc1) (.slice pa2 pn2 pc2) (.slice pa3 pn3 pc3) (.slice pa4 pn4 pc4) (.slice pa5 1 pc5) from⟨by rw[eW3];go_simp,by rw[eW3];go_simp,by rw[eW3];go_simp,by rw[eW3];go_simp,by rw[eW3];go_simp,by rw[eW3];go_simp,by rw[eW3];go_simp,fun o=>by have hq:=hcf8 o;rw[eW3];go_simp,gDk.ext (gDk.more (fun k hk hl=>trivial) HD7.o) (show Ext w7 W3 by rw[eW3];exact ext_trans HX78.o Qac)⟩);have HQQ:=hH (show DkAt (fun _=>True) (w8.heap.size) dq W3 (.slice qa1 qn1 qc1) (.slice qa2 qn2 qc2) (.slice qa3 qn3 qc3) (.slice qa4 qn4 qc4) (.slice qa5 1 qc5) from⟨by rw[eW3];go_simp,by rw[eW3];go_simp,by rw[eW3];go_simp,by rw[eW3];go_simp,by rw[eW3];go_simp,by rw[eW3];go_simp,by rw[eW3];go_simp,fun o=>by rw[eW3];go_simp,gDk.ext (gDk.more (fun k hk hl=>trivial) HD8.o) (show Ext w8 W3 by rw[eW3];exact Qac)⟩);have HXX3:=hH (HXX.o.ext HX3.o);have HXA3:=hH (HXA.o.ext gAt HX3.o);have HW3:=hH (ext_trans HW.o HX3.o);clear eW3 hcf8 HX7 HX8 HX78 HD7 HD8 HTX HTY HXX HYY HXA HW t1 t1b t2 t2b t3 t4 zx zy r0 s0 r1 s1 r2 s2 r3 s3 r4 s4 r5 s5 r6 s6;obtain⟨_,_,_,_,hpo⟩:=HPP.o.parts;obtain⟨_,_,_,_,hqo⟩:=HQQ.o.parts;obtain⟨b,o,nM,b1,m1,f1,b2,m2,f2,ea,hb,ek,hdM,u0,u1,u2,u3⟩:=Qdj hpo (i:=0) oM;obtain⟨b',o',nN,b1',m1',f1',b2',m2',f2',ea',hb',ek',hdN,u0',u1',u2',u3'⟩:=Qdj hqo (i:=0) oM;subst ea ea';obtain rfl:M=nM:=by rw[HOP.o] at ek;exact Option.some.inj ek
       obtain rfl:N=nN:=by rw[HOQ.o] at ek';exact Option.some.inj ek'
       have HRU:=hH (fun(W:World) (hx:Ext W3 W)=>(Qwp (gDk.ext HPP.o.read hx) (gNo.ext hdN hx)).mono fun _ _ h=>Vej h);have HRV:=hH (fun(W:World) (hx:Ext W3 W)=>(Qwp (gDk.ext HQQ.o.read hx) (gNo.ext hdM hx)).mono fun _ _ h=>Vej h);obtain⟨e3,he3⟩:∃x:Int,Q3r dp N=x:=⟨_,rfl⟩;obtain⟨e4,he4⟩:∃x:Int,Q3r dq M=x:=⟨_,rfl⟩;obtain⟨dU,hdU⟩:∃x:Dk,Van dp N=x:=⟨_,rfl⟩;obtain⟨dV,hdV⟩:∃x:Dk,Van dq M=x:=⟨_,rfl⟩;rw[he3,hdU] at HRU;rw[he4,hdV] at HRV;have HGU:=hH (fun(q:e3=0)=>(show RightK dU from hdU▸(Veo (he3.trans q)).1));rw[he3,he4,hdU,hdV] at HLAW;rw[Nat.zero_mul,Nat.add_zero] at u0 u0';have z0:W3.cell? ⟨b',o',none⟩=some (.int .i64 N.site):=u0';have z1:W3.cell? ⟨b',o'+1,none⟩=some (.int .i64 N.number):=by simpa using u1'
       have z2:W3.cell? ⟨b',o'+2,none⟩=some (.slice b1' m1' f1'):=by simpa using u2'
       have z3:W3.cell? ⟨b',o'+3,none⟩=some (.slice b2' m2' f2'):=by simpa using u3'
       have HZM:=hH (show W3.cell? ⟨b,o,none⟩=some (.int .i64 M.site)∧W3.cell? ⟨b,o+1,none⟩=some (.int .i64 M.number)∧W3.cell? ⟨b,o+2,none⟩=some (.slice b1 m1 f1)∧W3.cell? ⟨b,o+3,none⟩=some (.slice b2 m2 f2) from⟨u0,by simpa using u1,by simpa using u2,by simpa using u3⟩);have HBM:=hH hb;generalize N.site=Ns at *;generalize N.number=Nn at *;generalize M.site=Ms at *;generalize M.number=Mn at *;clear he3 he4 hdU hdV ek ek' hdM hdN hpo hqo u0 u1 u2 u3 u0' u1' u2' u3' HP1 HQ1 HOP HOQ hb;obtain⟨y0,y1,y2,y3,y4,y5,y6p⟩:=HPP.o.seven;have y6:=HQQ.o.c6;have zq:=HQQ.o.lt;have zp:=HPP.o.lt;go_cut [10,19] from 107 to 115 (fun s10 s19 wx=>s10= .int .i64 e3∧∃(ub:Nat) (z1 z2 z3 z4 z5:Value),s19= .pointer (some ⟨ub,0,none⟩)∧Hid (DkAt (fun _=>True) ub dU wx z1 z2 z3 z4 z5)∧Hid (Ext W3 wx))
       case first=>
        clear HLAW HRV HGU HZM HBM HXX3 HXA3 HT;have hFw:¬(W3.heap.size≠W3.heap.size):=fun h=>h rfl
        go_region_law (first|(go_simp;go_at_call 31;go_must ((with_reducible refine(HRU.o _ Qac).mono ?_);rintro e w9 ⟨xa1,xn1,xc1,xa2,xn2,xc2,xa3,xn3,xc3,xa4,xn4,xc4,xa5,xn5,xc5,rfl,hd9,hx9⟩;(try(refine Vem (T:=(w9.cell? ⟨W3.heap.size,0,none⟩=some (.int .i64 0)∧w9.cell? ⟨W3.heap.size,1,none⟩=some (.slice none 0 0)∧w9.cell? ⟨W3.heap.size,2,none⟩=some (.slice none 0 0)∧w9.cell? ⟨W3.heap.size,3,none⟩=some (.slice none 0 0)∧w9.cell? ⟨W3.heap.size,4,none⟩=some (.slice none 0 0)∧w9.cell? ⟨W3.heap.size,5,none⟩=some (.int .i64 0)∧w9.cell? ⟨W3.heap.size,6,none⟩=some (.slice none 0 0))∧(w9.frozen? ⟨W3.heap.size,0,none⟩=false∧w9.frozen? ⟨W3.heap.size,1,none⟩=false∧w9.frozen? ⟨W3.heap.size,2,none⟩=false∧w9.frozen? ⟨W3.heap.size,3,none⟩=false∧w9.frozen? ⟨W3.heap.size,4,none⟩=false∧w9.frozen? ⟨W3.heap.size,5,none⟩=false∧w9.frozen? ⟨W3.heap.size,6,none⟩=false)∧(∀o,w9.frozen? ⟨W3.heap.size,o,none⟩=false)∧W3.heap.size<w9.heap.size) ?_ (fun nb=> ?_);(focus(refine Vfq hx9 ?_ ?_ ?_ ?_ ?_ ?_ ?_ ?_ (fun o=> ?_);(all_goals (first|(with_reducible assumption)|omega|(go_simp;done)|(simp;done)|(simp;omega;done)));done));obtain⟨⟨nb0,nb1,nb2,nb3,nb4,nb5,nb6⟩,⟨ng0,ng1,ng2,ng3,ng4,ng5,ng6⟩,nbf,nbz⟩:=nb));have HX9:=xY W3 hx9;have HD9:=hH hd9;clear hd9 hx9)))
        all_goals (go_wp2_with fail;go_meet)
        all_goals
         refine⟨rfl,_,(.slice xa1 xn1 xc1),(.slice xa2 xn2 xc2),(.slice xa3 xn3 xc3),(.slice xa4 xn4 xc4),(.slice xa5 xn5 xc5),rfl,hH ?_,hH ?_⟩
         ·refine⟨gS,gS,gS,gS,gS,gS,gS,fun o=> ?_,?_⟩
          ·first
            |(have hq:=nbf o;go_simp;done)
            |go_simp
          ·first
            |(have nq:=nbz;refine gDk.more (F:=fun k=>k≠W3.heap.size) (fun _ _ _=>trivial) ?_;(repeat(with_reducible refine Vd9 ?_ hFw _));exact gDk.more (fun k hk _=>(by have hk':_≤k:=hk;(try simp at hk');omega)) HD9.o)
            |(refine gDk.ext (gDk.more (fun _ _ _=>trivial) HD9.o) ?_;exact Qac)
         ·have hq:=HX9.o;have hz9':=hq.size;exact Qac
       case rest=>
        clear HRU;obtain⟨rfl,ub,g1,g2,g3,g4,g5,rfl,HUU,HX4⟩:=hcut;obtain⟨hua,hug,huq,_,_⟩:=HUU.o.parts;obtain⟨ga1,gn1,gc1,rfl⟩:=hua.slice;obtain⟨ga2,gn2,gc2,rfl⟩:=hug.slice;obtain⟨ga3,gn3,gc3,rfl⟩:=huq.slice;obtain rfl:gn1=dU.state.1.length:=hua.len.1;have HUA:=hH hua;have HUG:=hH hug;have HUQ:=hH huq;clear hua hug huq;have HQQ4:=hH (HQQ.o.ext HX4.o);have HPP4:=hH (HPP.o.ext HX4.o);have HXX4:=hH (HXX3.o.ext HX4.o);have HXA4:=hH (HXA3.o.ext gAt HX4.o);have HW4:=hH (ext_trans HW3.o HX4.o);have HRV4:=hH (fun(W:World) (hx:Ext wc W)=>HRV.o W (ext_trans HX4.o hx));obtain⟨k0,k1,k2,k3⟩:=HZM.o;have z0:=(HX4.o.cells _ _ HBM.o).trans k0;have z1:=(HX4.o.cells _ _ HBM.o).trans k1;have z2:=(HX4.o.cells _ _ HBM.o).trans k2;have z3:=(HX4.o.cells _ _ HBM.o).trans k3;have zbm:=Nat.lt_of_lt_of_le HBM.o HX4.o.size;clear k0 k1 k2 k3 y0 y1 y2 y3 y4 y5 y6p y6 zq zp HPP HQQ HXX3 HXA3 HW3 HX4 HRV HZM HBM;generalize hwz:wc=W4 at *;clear hwz;obtain⟨y0,y1,y2,y3,y4,y5,y6p⟩:=HQQ4.o.seven;have y6:=HPP4.o.c6;have zq:=HQQ4.o.lt;have zp:=HPP4.o.lt;go_upto_region 20 with fail
        go_cut [12,20] from 116 to 124 (fun s12 s20 wx=>s12= .int .i64 e4∧∃(vb:Nat) (z1 z2 z3 z4 z5:Value),s20= .pointer (some ⟨vb,0,none⟩)∧Hid (DkAt (fun _=>True) vb dV wx z1 z2 z3 z4 z5)∧Hid (Ext W4 wx))
        case first=>
         clear HLAW HGU HXX4 HXA4 HT HUU HUA HUG HUQ;have hFw:¬(W4.heap.size≠W4.heap.size):=fun h=>h rfl
         go_region_law (first|(go_simp;go_at_call 31;go_must ((with_reducible refine(HRV4.o _ Qac).mono ?_);rintro e w10 ⟨ya1,yn1,yc1,ya2,yn2,yc2,ya3,yn3,yc3,ya4,yn4,yc4,ya5,yn5,yc5,rfl,hd10,hx10⟩;(try(refine Vem (T:=(w10.cell? ⟨W4.heap.size,0,none⟩=some (.int .i64 0)∧w10.cell? ⟨W4.heap.size,1,none⟩=some (.slice none 0 0)∧w10.cell? ⟨W4.heap.size,2,none⟩=some (.slice none 0 0)∧w10.cell? ⟨W4.heap.size,3,none⟩=some (.slice none 0 0)∧w10.cell? ⟨W4.heap.size,4,none⟩=some (.slice none 0 0)∧w10.cell? ⟨W4.heap.size,5,none⟩=some (.int .i64 0)∧w10.cell? ⟨W4.heap.size,6,none⟩=some (.slice none 0 0))∧(w10.frozen? ⟨W4.heap.size,0,none⟩=false∧w10.frozen? ⟨W4.heap.size,1,none⟩=false∧w10.frozen? ⟨W4.heap.size,2,none⟩=false∧w10.frozen? ⟨W4.heap.size,3,none⟩=false∧w10.frozen? ⟨W4.heap.size,4,none⟩=false∧w10.frozen? ⟨W4.heap.size,5,none⟩=false∧w10.frozen? ⟨W4.heap.size,6,none⟩=false)∧(∀o,w10.frozen? ⟨W4.heap.size,o,none⟩=false)∧W4.heap.size<w10.heap.size) ?_ (fun nb=> ?_);(focus(refine Vfq hx10 ?_ ?_ ?_ ?_ ?_ ?_ ?_ ?_ (fun o=> ?_);(all_goals (first|(with_reducible assumption)|omega|(go_simp;done)|(simp;done)|(simp;omega;done)));done));obtain⟨⟨nb0,nb1,nb2,nb3,nb4,nb5,nb6⟩,⟨ng0,ng1,ng2,ng3,ng4,ng5,ng6⟩,nbf,nbz⟩:=nb));have HX10:=xY W4 hx10;have HD10:=hH hd10;clear hd10 hx10)))
         all_goals (go_wp2_with fail;go_meet)
         all_goals
          refine⟨rfl,_,(.slice ya1 yn1 yc1),(.slice ya2 yn2 yc2),(.slice ya3 yn3 yc3),(.slice ya4 yn4 yc4),(.slice ya5 yn5 yc5),rfl,hH ?_,hH ?_⟩
          ·refine⟨gS,gS,gS,gS,gS,gS,gS,fun o=> ?_,?_⟩
           ·first
             |(have hq:=nbf o;go_simp;done)
             |go_simp
           ·first
             |(have nq:=nbz;refine gDk.more (F:=fun k=>k≠W4.heap.size) (fun _ _ _=>trivial) ?_;(repeat(with_reducible refine Vd9 ?_ hFw _));exact gDk.more (fun k hk _=>(by have hk':_≤k:=hk;(try simp at hk');omega)) HD10.o)
             |(refine gDk.ext (gDk.more (fun _ _ _=>trivial) HD10.o) ?_;exact Qac)
          ·have hq:=HX10.o;have hz9':=hq.size;exact Qac
        case rest=>
         clear HRV4;obtain⟨rfl,vb,g1,g2,g3,g4,g5,rfl,HVV,HX5⟩:=hcut;obtain⟨hua,hug,huq,_,_⟩:=HVV.o.parts;obtain⟨ha1,hn1,hc1,rfl⟩:=hua.slice;obtain⟨ha2,hn2,hc2,rfl⟩:=hug.slice;obtain⟨ha3,hn3,hc3,rfl⟩:=huq.slice;have HVA:=hH hua;have HVG:=hH hug;have HVQ:=hH huq;clear hua hug huq y0 y1 y2 y3 y4 y5 y6p y6 zq zp z0 z1 z2 z3 HPP4 HQQ4;have HU5:=hH (HUU.o.ext HX5.o);have HXX5:=hH (HXX4.o.ext HX5.o);have HXA5:=hH (HXA4.o.ext gAt HX5.o);have HUA5:=hH (HUA.o.ext gAt HX5.o);have HUG5:=hH (HUG.o.ext gMk HX5.o);have HUQ5:=hH (HUQ.o.ext Qd6 HX5.o);have HW5:=hH (ext_trans HW4.o HX5.o);clear HUU HXX4 HXA4 HUA HUG HUQ HW4 HX5;rcases HLAW.o with⟨h3,h4⟩|⟨h3,h4,hst,hsq,hlen,hsx,hsy⟩
         ·clear HLAW HGU;subst h3 h4;go_wp2_with fail
          go_ret;exact⟨rfl,HW5.o⟩
         ·have hru:=HGU.o h3;have hfit:=hru.state;have hl3:dU.state.1.length≤300:=hfit.2.1;have hul:u.data.toList.length=u.size:=sI;have hvl:v.data.toList.length=v.size:=sI;rw[hul,hvl] at hlen;rw[HT.o.sX] at hsx;rw[HT.o.sY] at hsy;have HSS:=hH (fun(W:World) (hx:Ext wc W)=>(show Calls Tryz.prog 56 #[.agg #[.slice ga1 dU.state.1.length gc1,.slice ga2 gn2 gc2],.agg #[.slice ha1 hn1 hc1,.slice ha2 hn2 hc2]] W (fun e w'=>e= .returned (.bool true)∧Ext W w') from Qsv (Qh1 (HUA5.o.ext gAt hx) (HUG5.o.ext gMk hx)) (hst▸Qh1 (HVA.o.ext gAt hx) (HVG.o.ext gMk hx))));have HSI:=hH (fun(W:World) (hx:Ext wc W)=>Qm3 (HUQ5.o.ext Qd6 hx) (HVQ.o.ext Qd6 hx));rw[decide_eq_true hsq] at HSI;have HI3:=hH (fun(W:World) (hx:Ext wc W)=>Veh (HUA5.o.ext gAt hx) (HXA5.o.ext gAt hx) (fun a ha=>(hfit.1.1.2 a ha).1) hl3 hsx);have HI4:=hH (fun(W:World) (hx:Ext wc W)=>Veh (HUA5.o.ext gAt hx) (HXA5.o.ext gAt hx) (fun a ha=>(hfit.1.1.2 a ha).1) hl3 hsy);have t5:((dU.state.1.length:Int)==(X.state.1.length:Int)+(u.size:Int)+(v.size:Int))=true:=by rw[beq_iff_eq];omega
          have HWR1:=hH (show wrap64 ((X.state.1.length:Int)+(u.size:Int))=(X.state.1.length:Int)+(u.size:Int) from IntWalk.wrap64_in _ oM);have HWR2:=hH (show wrap64 ((X.state.1.length:Int)+(u.size:Int)+(v.size:Int))=(X.state.1.length:Int)+(u.size:Int)+(v.size:Int) from IntWalk.wrap64_in _ oM);have hu9:u.size≤300:=oM;have hv9:v.size≤300:=oM;have hx9:X.state.1.length≤300:=oM;obtain⟨_,p1,p2,p3,_,_,_⟩:=HU5.o.seven;obtain⟨_,q1,q2,q3,_,_,_⟩:=HVV.o.seven;have x1':=HXX5.o.c1;have zu:=HU5.o.lt;have zv:=HVV.o.lt;have zx:=HXX5.o.lt;clear HLAW HGU hru hfit hst hsq hlen hsx hsy hul hvl HT HU5 HXX5;subst h3 h4;go_wp2_with (first|(go_at_call 56;go_must ((with_reducible refine(HSS.o _ Qac).mono ?_);rintro e w11 ⟨rfl,hx11⟩;have cc11_0:=hx11.cl (ub) 1 (.slice ga1 dU.state.1.length gc1);have cc11_1:=hx11.cl (ub) 2 (.slice ga2 gn2 gc2);have cc11_2:=hx11.cl (ub) 3 (.slice ga3 gn3 gc3);have cc11_3:=hx11.cl (vb) 1 (.slice ha1 hn1 hc1);have cc11_4:=hx11.cl (vb) 2 (.slice ha2 hn2 hc2);have cc11_5:=hx11.cl (vb) 3 (.slice ha3 hn3 hc3);have cc11_6:=hx11.cl (bx) 1 (.slice ra1 X.state.1.length rc1);have hz11:=hx11.size;(try simp at hz11);have hu11:=zL hx11 ub;have hv11:=zL hx11 vb;have hx_11:=zL hx11 bx;have HX11:=xY wc hx11;clear hx11))|(go_at_call 57;go_must ((with_reducible refine(HSI.o _ (ext_trans HX11.o Qac)).mono ?_);rintro e w12 ⟨rfl,hx12⟩;have cc12_0:=hx12.cl (ub) 1 (.slice ga1 dU.state.1.length gc1);have cc12_1:=hx12.cl (ub) 2 (.slice ga2 gn2 gc2);have cc12_2:=hx12.cl (ub) 3 (.slice ga3 gn3 gc3);have cc12_3:=hx12.cl (vb) 1 (.slice ha1 hn1 hc1);have cc12_4:=hx12.cl (vb) 2 (.slice ha2 hn2 hc2);have cc12_5:=hx12.cl (vb) 3 (.slice ha3 hn3 hc3);have cc12_6:=hx12.cl (bx) 1 (.slice ra1 X.state.1.length rc1);have hz12:=hx12.size;(try simp at hz12);have hu12:=zL hx12 ub;have hv12:=zL hx12 vb;have hx_12:=zL hx12 bx;have HX12:=xX HX11 hx12;clear hx12))|(go_at_call 58;((with_reducible refine(HI3.o _ (ext_trans HX12.o Qac)).mono ?_);rintro e w13 ⟨rfl,hx13⟩;have cc13_0:=hx13.cl (ub) 1 (.slice ga1 dU.state.1.length gc1);have cc13_1:=hx13.cl (ub) 2 (.slice ga2 gn2 gc2);have cc13_2:=hx13.cl (ub) 3 (.slice ga3 gn3 gc3);have cc13_3:=hx13.cl (vb) 1 (.slice ha1 hn1 hc1);have cc13_4:=hx13.cl (vb) 2 (.slice ha2 hn2 hc2);have cc13_5:=hx13.cl (vb) 3 (.slice ha3 hn3 hc3);have cc13_6:=hx13.cl (bx) 1 (.slice ra1 X.state.1.length rc1);have hz13:=hx13.size;(try simp at hz13);have hu13:=zL hx13 ub;have hv13:=zL hx13 vb;have hx_13:=zL hx13 bx;have HX13:=xX HX12 hx13;clear hx13))|(go_at_call 58;go_must ((with_reducible refine(HI4.o _ (ext_trans HX13.o Qac)).mono ?_);rintro e w14 ⟨rfl,hx14⟩;have cc14_0:=hx14.cl (ub) 1 (.slice ga1 dU.state.1.length gc1);have cc14_1:=hx14.cl (ub) 2 (.slice ga2 gn2 gc2);have cc14_2:=hx14.cl (ub) 3 (.slice ga3 gn3 gc3);have cc14_3:=hx14.cl (vb) 1 (.slice ha1 hn1 hc1);have cc14_4:=hx14.cl (vb) 2 (.slice ha2 hn2 hc2);have cc14_5:=hx14.cl (vb) 3 (.slice ha3 hn3 hc3);have cc14_6:=hx14.cl (bx) 1 (.slice ra1 X.state.1.length rc1);have hz14:=hx14.size;(try simp at hz14);have hu14:=zL hx14 ub;have hv14:=zL hx14 vb;have hx_14:=zL hx14 bx;have HX14:=xX HX13 hx14;clear hx14)))
          go_ret;exact⟨rfl,ext_trans HW5.o (ext_trans HX14.o Qac)⟩
      ·have t4:(e2 !=0)=true:=by simpa using q2
       clear he1 he2 hdp hdq wX wY hwX hwY q1 q2;exact Zbj
     ·have t3:(e1 !=0)=true:=by simpa using q1
      clear he1 he2 hdp hdq wX wY hwX hwY q1;exact Zbj
    ·have t2:decide ((0:Int)<(Y.waits.length:Int))=true:=decide_eq_true oM;have t2b:decide (0<Y.waits.length)=true:=decide_eq_true oM;clear wX wY;go_wp2_with fail
     go_ret;exact⟨rfl,HW.o⟩
   ·have t1:decide ((0:Int)<(X.waits.length:Int))=true:=decide_eq_true oM;have t1b:decide (0<X.waits.length)=true:=decide_eq_true oM;clear wX;go_wp2_with fail
    go_ret;exact⟨rfl,HW.o⟩
theorem Ve0 {F:Nat→Prop} {w:World} {cs:List Value} {n:No} {va vb:Value} {a b:Tx} {p:Int} (k:RNo F w cs n) (ha:RTx va a) (hb:RTx vb b) (ip:I64 p):
  Calls Tryz.prog 9 #[.agg cs.toArray,va,vb,.int .i64 p] w fun e w'=>e= .returned (.bool true)∧Ext w w':=by
 obtain⟨rfl,hs⟩:=ha;obtain⟨rfl,hs'⟩:=hb;obtain⟨u,rfl⟩:∃u:ByteArray,a=u.data.toList:=⟨⟨a.toArray⟩,sI⟩;obtain⟨v,rfl⟩:∃v:ByteArray,b=v.data.toList:=⟨⟨b.toArray⟩,sI⟩;rw[Qww,Qww];exact Vet k (by simpa using hs) (by simpa using hs') ip
end Go.Proofs.YtgnccjojfebkeaaGreat
