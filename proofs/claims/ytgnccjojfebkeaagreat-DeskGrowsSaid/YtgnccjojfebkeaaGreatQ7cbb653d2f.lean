/- DeskGrows, walked. -/
import Derived.Test.YtgnccjojfebkeaaGreatQdd3cfccc00
import Derived.Test.YtgnccjojfebkeaaGreatQe7ae9feb46
import Derived.Test.YtgnccjojfebkeaaGreatQ67e18446e6
import Derived.Test.YtgnccjojfebkeaaGreatQfc0f38224b
import Derived.Test.YtgnccjojfebkeaaGreatQdb962effe0
import Derived.Test.YtgnccjojfebkeaaGreatQ453a98ae2d
import Derived.Test.YtgnccjojfebkeaaGreatQ23fd3e177e
import Derived.Test.YtgnccjojfebkeaaGreatQe1b3bbb0d1
import Derived.Test.YtgnccjojfebkeaaGreatQb3a614442e
import Derived.Test.YtgnccjojfebkeaaGreatQb7e6ad5cd9
import Derived.Test.YtgnccjojfebkeaaGreatQb8af4df662
import Derived.Test.YtgnccjojfebkeaaGreatQbba74dd308
set_option linter.unusedVariables false
set_option linter.unusedSimpArgs false
set_option maxRecDepth 100000
set_option maxHeartbeats 4000000
namespace Go.Proofs.YtgnccjojfebkeaaGreat
open Go Go.RowKit Go.BigFrame Cp
theorem Veo {l:List No} (h:Qdi l) {a b:No} (ha:a∈l) (hb:b∈l) (e:Qdz a b=0):a=b:=by
 induction h with
 |nil=>cases ha
 |cons hx _ ih=>
  obtain⟨e1,e2⟩:=ordN_zero.1 e;rcases List.mem_cons.1 ha with g1|g1
  ·rcases List.mem_cons.1 hb with g2|g2
   ·exact g1.trans g2.symm
   ·have:=hx _ g2;rw[←g1] at this;omega
  ·rcases List.mem_cons.1 hb with g2|g2
   ·have:=hx _ g1;rw[←g2,ordN_zero.2 ⟨e1.symm,e2.symm⟩] at this;omega
   ·exact ih g1 g2
def Vd8 (l:List No) (y:No) (k:Nat):Bool:=(l.take k).any fun z=>decide (Qdz z y=0)
theorem Vep {l:List No} {y z:No} {k:Nat} (h:l[k]?=some z):Vd8 l y (k+1)=(Vd8 l y k ||decide (Qdz z y=0)):=by
 obtain⟨h1,h2⟩:=List.getElem?_eq_some_iff.1 h;unfold Vd8;rw[List.take_succ_eq_append_getElem h1,h2,List.any_append];simp
theorem Ve5 {l:List No} {y:No} (h:y∈l):Vd8 l y l.length=true:=by
 unfold Vd8;rw[List.take_of_length_le (Nat.le_refl _),List.any_eq_true];exact⟨y,h,decide_eq_true (ordN_zero.2 ⟨rfl,rfl⟩)⟩
theorem Vew {l:List No} {y:No} (h:∀z∈l,Qdz z y≠0):Vd8 l y l.length=false:=by
 unfold Vd8;rw[List.take_of_length_le (Nat.le_refl _),List.any_eq_false];exact fun z hz=>by simpa using h z hz
theorem Ven {F G:Nat→Prop} {w:World} {cs ds:List Value} {n m:No} (h:RNo F w cs n) (k:RNo G w ds m) (hne:¬Qdz n m=0):
  Calls Tryz.prog 34 #[.agg cs.toArray,.agg ds.toArray] w fun e w'=>e= .returned (.bool false)∧Ext w w':=by
 rw[ordN_zero] at hne;obtain⟨v,u,rfl,i1,i2,h1,h2⟩:=h;obtain⟨v',u',rfl,_,_,k1,k2⟩:=k;obtain⟨st,nu,l,q⟩:=n;obtain⟨st',nu',l',q'⟩:=m;simp only at h1 h2 k1 k2 hne ⊢;obtain⟨a1,n1,c1,rfl⟩:=h1.slice;obtain⟨a2,n2,c2,rfl⟩:=h2.slice;obtain⟨a3,n3,c3,rfl⟩:=k1.slice;obtain⟨a4,n4,c4,rfl⟩:=k2.slice;clear h1 h2 k1 k2 i1 i2;by_cases g:st=st'
 ·have t2:(nu==nu')=false:=by rw[beq_eq_false_iff_ne];exact fun e=>hne ⟨g,e⟩
  subst g;clear hne;go_enter Tryz.func34,Tryz.ntmps34;go_wp2_with fail
  go_ret;exact⟨rfl,Qac⟩
 ·have t1:(st==st')=false:=by simpa using g
  clear hne g;go_enter Tryz.func34,Tryz.ntmps34;go_wp2_with fail
  go_ret;exact⟨rfl,Qac⟩
theorem Vek {F G:Nat→Prop} {w:World} {cs ds:List Value} {n m:No} (h:RNo F w cs n) (k:RNo G w ds m) (he:Qdz n m=0→n=m):
  Calls Tryz.prog 34 #[.agg cs.toArray,.agg ds.toArray] w fun e w'=>e= .returned (.bool (decide (Qdz n m=0)))∧Ext w w':=by
 by_cases g:Qdz n m=0
 ·obtain rfl:=he g;rw[decide_eq_true g];exact Qus h k
 ·rw[decide_eq_false g];exact Ven h k g
theorem Zbi {p:Prop} (h:p:=by
 go_wp2_with fail
 refine Qad (fun W4 eW4=> ?_);have h4:=rL eW4 ⟨w3.heap.size,4,none⟩ (.slice (some ⟨bz,oz,none⟩) dv.waits.length z4);have h5:=rL eW4 ⟨bz,oz+k * 4,none⟩ (.int .i64 zs);have h6:=rL eW4 ⟨bz,oz+k * 4+1,none⟩ (.int .i64 zn);have h7:=rL eW4 ⟨bz,oz+k * 4+2,none⟩ (.slice g1 l1 h1);have h8:=rL eW4 ⟨bz,oz+k * 4+3,none⟩ (.slice g2 l2 h2);obtain⟨i0,i1,i2,i3⟩:=rR4 eW4 wy.heap.size (.int .i64 j) (.int .i64 y.number) (.slice b1 m1 f1) (.slice b2 m2 f2);have zW4_0:=zE eW4 w3.heap.size;have zW4_1:=zE eW4 bz;have zW4_2:=zE eW4 wy.heap.size;have hw4:=xE wr eW4;clear eW4;refine Qaa fol kR (fun hlater=> ?_);repeat(go_big_quiet_step ((first
   |(go_at_call 34;(with_reducible exact Qah (HSM.o _ (ext_trans hw4 (Later.ext _))))))))
 refine wpQuiet_nil ?_;rintro W5 ⟨⟨W5x,hx5⟩,rfl⟩;clear hlater;go_wp2_with fail
 go_roundw
 case rel=>exact⟨k+1,oM,by go_num,hH (by rw[HNX.o,HTB.o];rfl),hH (ext_trans HXD.o (ext_trans hw4 hx5))⟩
 case measure=>simp[intOf];omega):p:=h
theorem Vef {F G:Nat→Prop} {w:World} {cs es:List Value} {d:Dk} {n:No} (h:RDk F w cs d) (k:RNo G w es n):
  Calls Tryz.prog 10 #[.agg cs.toArray,.agg es.toArray] w fun e w'=>e= .returned (.bool true)∧Ext w w':=by
 have HRC:=hH (fun(W:World) (hx:Ext w W)=>(Qwp (gDk.ext h hx) (gNo.ext k hx)).mono fun _ _ h=>Vbi h);obtain⟨v6,v7,rfl,i6,i7,k6r,k7r⟩:=k;obtain⟨a6,n6,k6,rfl⟩:=k6r.slice;obtain⟨a7,n7,k7,rfl⟩:=k7r.slice;obtain⟨va,vg,vs,vw,vo,rfl,ist,ha,hg,hq,hw,ick,ho⟩:=h;obtain⟨st,⟨la,lg⟩,sn,wt,ck,ou⟩:=d;simp only at ha hg hq hw ho ist ick HRC ⊢;have HG:=hH (fun(W:World) (hx:Ext w W)=>hg.ext gMk hx);have HQ:=hH (fun(W:World) (hx:Ext w W)=>hq.ext Qd6 hx);have HW:=hH (fun(W:World) (hx:Ext w W)=>hw.ext gNo hx);have HO:=hH (fun(W:World) (hx:Ext w W)=>ho.ext gNo hx);obtain⟨a1,n1,k1,rfl⟩:=ha.slice;obtain⟨a2,n2,k2,rfl⟩:=hg.slice;obtain⟨a3,n3,k3,rfl⟩:=hq.slice;obtain⟨a4,n4,k4,rfl⟩:=hw.slice;obtain⟨a5,n5,k5,rfl⟩:=ho.slice;obtain rfl:n2=lg.length:=hg.len.1;obtain rfl:n4=wt.length:=hw.len.1;clear k6r k7r i6 i7 ha hg hq hw ho;obtain⟨ec,hec⟩:∃x:Int,Q3r ⟨st,(la,lg),sn,wt,ck,ou⟩ n=x:=⟨_,rfl⟩;obtain⟨dv,hdv⟩:∃x:Dk,Van ⟨st,(la,lg),sn,wt,ck,ou⟩ n=x:=⟨_,rfl⟩;by_cases he:ec=0
 ·subst he;obtain⟨hrd,hcn,_,_⟩:=Vff hec;obtain⟨hrv,hsi,hou,hck,hle,hgo,hwt⟩:=Ve7 hec;rw[hdv] at hrv hsi hou hck hle hgo hwt;rw[hec,hdv] at HRC;simp only at hsi hou hck hle hgo hwt;have hlw:=hrd.lw;have hlg:lg.length≤600:=hrd.state.2.2;have hxw:=hrv.lw;simp only at hlw;have HX5:=hH (show dv.seen.length=5 from(checkI_iff.1 hrv.seen).1);have HOU:=hH hou;have hb:Vd7 dv.seen sn=0:=by unfold Vd7;rw[hrv.seen,if_neg sI];exact hrd.seen
  have HCV:=hH (fun(W:World) (F:Nat→Prop) (v:Value) (hx:Ext w W) (hv:RSl Qe1 1 F W v dv.seen)=>Veb hv (HQ.o W hx));rw[hb,if_pos rfl,hle] at HCV;have HCX:=hH (fun(W:World) (F:Nat→Prop) (cs:List Value) (h:RDk F W cs dv)=>Qfk h);rw[checkK_ok.2 hrv] at HCX;have HGO:=hH hgo;have HWT:=hH hwt;have HNW:=hH (show∀y∈wt,Qa0 y=0 from hrd.nw);have HSO:=hH hrv.sorted;have t1:(dv.site !=st)=false:=by rw[hsi];simp
  have t2:decide (dv.clock<ck)=false:=decide_eq_false oM;clear hec hdv hrd hcn hrv hsi hou hck hle hgo hwt hb;go_enter Tryz.func10,Tryz.ntmps10;go_wp2_with (first|(go_at_call 22;go_must ((with_reducible refine(Qhs _).mono ?_);rintro e w1 ⟨rfl,hx1⟩;obtain⟨c1_0,c1_1,c1_2,c1_3,c1_4,c1_5,c1_6⟩:=cC7 hx1 (w.heap.size) (.int .i64 st) (.slice a1 n1 k1) (.slice a2 lg.length k2) (.slice a3 n3 k3) (.slice a4 wt.length k4) (.int .i64 ck) (.slice a5 n5 k5);obtain⟨m1_0,m1_1,m1_2,m1_3⟩:=cC4 hx1 (w.heap.size+1) (.int .i64 n.site) (.int .i64 n.number) (.slice a6 n6 k6) (.slice a7 n7 k7);have hz1:=hx1.size;(try simp at hz1);obtain⟨hb1,hm1⟩:=zL2 hx1 w.heap.size;have HX1:=xY w hx1;clear hx1))|(go_at_call 25;go_must ((with_reducible refine(Vea _).mono ?_);rintro e w2 ⟨rfl,hx2⟩;obtain⟨c2_0,c2_1,c2_2,c2_3,c2_4,c2_5,c2_6⟩:=cC7 hx2 (w.heap.size) (.int .i64 st) (.slice a1 n1 k1) (.slice a2 lg.length k2) (.slice a3 n3 k3) (.slice a4 wt.length k4) (.int .i64 ck) (.slice a5 n5 k5);obtain⟨m2_0,m2_1,m2_2,m2_3⟩:=cC4 hx2 (w.heap.size+1) (.int .i64 n.site) (.int .i64 n.number) (.slice a6 n6 k6) (.slice a7 n7 k7);have hz2:=hx2.size;(try simp at hz2);obtain⟨hb2,hm2⟩:=zL2 hx2 w.heap.size;have HX2:=xX HX1 hx2;clear hx2))|(go_at_call 31;go_must ((with_reducible refine(HRC.o _ (ext_trans HX2.o Qac)).mono ?_);rintro e w3 ⟨x1,y1,z1,x2,y2,z2,x3,y3,z3,x4,y4,z4,x5,y5,z5,rfl,hd3,hx3⟩;obtain⟨c3_0,c3_1,c3_2,c3_3,c3_4,c3_5,c3_6⟩:=cC7 hx3 (w.heap.size) (.int .i64 st) (.slice a1 n1 k1) (.slice a2 lg.length k2) (.slice a3 n3 k3) (.slice a4 wt.length k4) (.int .i64 ck) (.slice a5 n5 k5);have hz3:=hx3.size;(try simp at hz3);have hb3:=zL hx3 w.heap.size;have HX3:=xX HX2 hx3;obtain⟨hp1,hp2,hp3,hp4,hp5⟩:=Veq hd3;have HD3:=hH hd3;obtain rfl:y4=dv.waits.length:=hp4.len.1;obtain rfl:y3=5:=hp3.len.1.trans HX5.o;have HG3:=hH hp2;have HQ3:=hH hp3;have HW3:=hH hp4;have HO3:=hH (show RSl RNo 4 (fun _=>True) w3 (.slice x5 y5 z5) ou from HOU.o▸hp5);clear hd3 hp1 hp2 hp3 hp4 hp5 hx3))|(go_at_call 59;go_must ((with_reducible refine(HCV.o _ _ _ (ext_trans HX3.o Qac) (HQ3.o.ext Qd6 Qac)).mono ?_);rintro e w4 ⟨rfl,hx4⟩;obtain⟨c4_0,c4_1,c4_2,c4_3,c4_4,c4_5,c4_6⟩:=cC7 hx4 (w.heap.size) (.int .i64 st) (.slice a1 n1 k1) (.slice a2 lg.length k2) (.slice a3 n3 k3) (.slice a4 wt.length k4) (.int .i64 ck) (.slice a5 n5 k5);obtain⟨d4_0,d4_1,d4_2,d4_3,d4_4,d4_5,d4_6⟩:=cC7 hx4 (w3.heap.size) (.int .i64 dv.site) (.slice x1 y1 z1) (.slice x2 y2 z2) (.slice x3 5 z3) (.slice x4 dv.waits.length z4) (.int .i64 dv.clock) (.slice x5 y5 z5);have hz4:=hx4.size;(try simp at hz4);have hb4:=zL hx4 w.heap.size;have ha4:=zL hx4 w3.heap.size;have HX4:=xX HX3 hx4;have HY4:=xY w3 hx4;clear hx4))|(go_at_call 60;go_must ((with_reducible refine(Qlk (HO3.o.ext gNo (ext_trans HY4.o Qac)) (HO.o _ (ext_trans HX4.o Qac))).mono ?_);rintro e w5 ⟨rfl,hx5⟩;obtain⟨c5_0,c5_1,c5_2,c5_3,c5_4,c5_5,c5_6⟩:=cC7 hx5 (w.heap.size) (.int .i64 st) (.slice a1 n1 k1) (.slice a2 lg.length k2) (.slice a3 n3 k3) (.slice a4 wt.length k4) (.int .i64 ck) (.slice a5 n5 k5);obtain⟨d5_0,d5_1,d5_2,d5_3,d5_4,d5_5,d5_6⟩:=cC7 hx5 (w3.heap.size) (.int .i64 dv.site) (.slice x1 y1 z1) (.slice x2 y2 z2) (.slice x3 5 z3) (.slice x4 dv.waits.length z4) (.int .i64 dv.clock) (.slice x5 y5 z5);have hz5:=hx5.size;(try simp at hz5);have hb5:=zL hx5 w.heap.size;have ha5:=zL hx5 w3.heap.size;have HX5:=xX HX4 hx5;have HY5:=xX HY4 hx5;clear hx5))|(go_at_call 55;go_must ((with_reducible refine(HCX.o _ _ _ (gDk.ext HD3.o (ext_trans HY5.o Qac))).mono ?_);rintro e w6 ⟨rfl,hx6⟩;obtain⟨c6_0,c6_1,c6_2,c6_3,c6_4,c6_5,c6_6⟩:=cC7 hx6 (w.heap.size) (.int .i64 st) (.slice a1 n1 k1) (.slice a2 lg.length k2) (.slice a3 n3 k3) (.slice a4 wt.length k4) (.int .i64 ck) (.slice a5 n5 k5);obtain⟨d6_0,d6_1,d6_2,d6_3,d6_4,d6_5,d6_6⟩:=cC7 hx6 (w3.heap.size) (.int .i64 dv.site) (.slice x1 y1 z1) (.slice x2 y2 z2) (.slice x3 5 z3) (.slice x4 dv.waits.length z4) (.int .i64 dv.clock) (.slice x5 y5 z5);have hz6:=hx6.size;(try simp at hz6);have hb6:=zL hx6 w.heap.size;have ha6:=zL hx6 w3.heap.size;have HX6:=xX HX5 hx6;have HY6:=xX HY5 hx6;clear hx6)))
  refine Qad (fun wb ewb=> ?_);have Bb2:=rL ewb ⟨w.heap.size,2,none⟩ (.slice a2 lg.length k2);have Bb4:=rL ewb ⟨w.heap.size,4,none⟩ (.slice a4 wt.length k4);have Be2:=rL ewb ⟨w3.heap.size,2,none⟩ (.slice x2 y2 z2);have Be3:=rL ewb ⟨w3.heap.size,3,none⟩ (.slice x3 5 z3);have Be4:=rL ewb ⟨w3.heap.size,4,none⟩ (.slice x4 dv.waits.length z4);have HWB:=hH (show Ext w wb by rw[ewb];exact ext_trans HX6.o Qac);have HYB:=hH (show Ext w3 wb by rw[ewb];exact ext_trans HY6.o Qac);have zb:w.heap.size<wb.heap.size:=World.block_lt_of_cell? _ _ Bb2;have za:w3.heap.size<wb.heap.size:=World.block_lt_of_cell? _ _ Be2;clear ewb;clear c6_0 c6_1 c6_2 c6_3 c6_4 c6_5 c6_6 d6_0 d6_1 d6_2 d6_3 d6_4 d6_5 d6_6 t1 t2;go_loopw [8] (fun iv wr=>∃i:Nat,i≤lg.length∧iv= .int .i64 i∧Hid (Ext wb wr)) (fun iv _=>lg.length-(intOf iv).toNat)
  case atStart=>exact⟨0,Nat.zero_le _,rfl,hH (ext_refl _)⟩
  case round=>
   obtain⟨i,hi,rfl,HXB⟩:=hrel;have Rb2:=(HXB.o.cells _ _ zb).trans Bb2;have Rb4:=(HXB.o.cells _ _ zb).trans Bb4;have Re2:=(HXB.o.cells _ _ za).trans Be2;have Re3:=(HXB.o.cells _ _ za).trans Be3;have Re4:=(HXB.o.cells _ _ za).trans Be4;have zbr:=Nat.lt_of_lt_of_le zb HXB.o.size;have zar:=Nat.lt_of_lt_of_le za HXB.o.size;by_cases hlt:i<lg.length
   ·obtain⟨b,o,p,c,ap,cp,rfl,hbz,ek,icc,hp,u0,u1⟩:=Qc7 (HG.o wr (ext_trans HWB.o HXB.o)) hlt;have HHG:=hH (fun(W:World) (hx:Ext wr W)=>Qht (HG3.o.ext gMk (ext_trans HYB.o (ext_trans HXB.o hx))) (Qam (hp.ext Qap hx) icc));rw[HGO.o _ (List.mem_of_getElem? ek)] at HHG;clear ek hp icc;go_wp2_with fail
    refine Qad (fun W2 eW2=> ?_);have g2:=rL eW2 ⟨w.heap.size,2,none⟩ (.slice (some ⟨b,o,none⟩) lg.length k2);have g3:=rL eW2 ⟨w3.heap.size,2,none⟩ (.slice x2 y2 z2);have g4:=rL eW2 ⟨b,o+i * 2,none⟩ (.slice ap p.length cp);have g5:=rL eW2 ⟨b,o+i * 2+1,none⟩ (.int .i64 c);have zW2_0:=zE eW2 w.heap.size;have zW2_1:=zE eW2 w3.heap.size;have zW2_2:=zE eW2 b;have hw2:=xE wr eW2;clear eW2;refine Qaa fol kR (fun hlater=> ?_);repeat(go_big_quiet_step ((first
      |(go_at_call 61;(with_reducible exact Qah (HHG.o _ (ext_trans hw2 (Later.ext _))))))))
    refine wpQuiet_nil ?_;rintro W3 ⟨⟨w3x,hx3⟩,rfl⟩;clear hlater;go_wp2_with fail
    go_roundw
    case rel=>exact⟨i+1,oM,by go_num,hH (ext_trans HXB.o (ext_trans hw2 hx3))⟩
    case measure=>simp[intOf];omega
   ·go_wp2_with fail
    refine Qad (fun wc ewc=> ?_);have Cb2:=rL ewc ⟨w.heap.size,2,none⟩ (.slice a2 lg.length k2);have Cb4:=rL ewc ⟨w.heap.size,4,none⟩ (.slice a4 wt.length k4);have Ce2:=rL ewc ⟨w3.heap.size,2,none⟩ (.slice x2 y2 z2);have Ce3:=rL ewc ⟨w3.heap.size,3,none⟩ (.slice x3 5 z3);have Ce4:=rL ewc ⟨w3.heap.size,4,none⟩ (.slice x4 dv.waits.length z4);have HRC2:=hH (xE wr ewc);have HWC:=hH (ext_trans HWB.o (ext_trans HXB.o HRC2.o));have HYC:=hH (ext_trans HYB.o (ext_trans HXB.o HRC2.o));have zbc:w.heap.size<wc.heap.size:=World.block_lt_of_cell? _ _ Cb2;have zac:w3.heap.size<wc.heap.size:=World.block_lt_of_cell? _ _ Ce2;clear ewc HXB HRC2 HWB HYB zb za zbr zar hi hlt Bb2 Bb4 Be2 Be3 Be4 Rb2 Rb4 Re2 Re3 Re4;clear wr;go_loopw [9] (fun iv wr=>∃i:Nat,i≤wt.length∧iv= .int .i64 i∧Hid (Ext wc wr)) (fun iv _=>wt.length-(intOf iv).toNat)
    case atStart=>exact⟨0,Nat.zero_le _,rfl,hH (ext_refl _)⟩
    case round=>
     obtain⟨i,hi,rfl,HXC⟩:=hrel;have Rb2:=(HXC.o.cells _ _ zbc).trans Cb2;have Rb4:=(HXC.o.cells _ _ zbc).trans Cb4;have Re2:=(HXC.o.cells _ _ zac).trans Ce2;have Re3:=(HXC.o.cells _ _ zac).trans Ce3;have Re4:=(HXC.o.cells _ _ zac).trans Ce4;have zbr:=Nat.lt_of_lt_of_le zbc HXC.o.size;have zar:=Nat.lt_of_lt_of_le zac HXC.o.size;have HWR:=hH (ext_trans HWC.o HXC.o);have HYR:=hH (ext_trans HYC.o HXC.o);by_cases hlt:i<wt.length
     ·obtain⟨b,o,y,b1,m1,f1,b2,m2,f2,rfl,hbz,ek,hde,u0,u1,u2,u3⟩:=Qdj (HW.o wr HWR.o) hlt;have hym:=List.mem_of_getElem? ek;have hyr:=checkN_right.1 (HNW.o y hym);obtain⟨j,hj⟩:∃j:Nat,y.site=(j:Int):=⟨y.site.toNat,by have:=hyr.site;omega⟩;have hj5:j<5:=by have:=hyr.site;omega
      obtain⟨bq,oq,sx,rfl,hqz,eq1,isx,cq⟩:=Qdb (HQ3.o.ext Qd6 HYR.o) hj5;have HCQ:=hH cq;have HQZ:=hH hqz;have hsx:atI dv.seen y.site.toNat=sx:=by rw[hj,Int.toNat_natCast];exact(Qe2 eq1).symm
      have hcase:=HWT.o y hym;rw[hsx] at hcase;have HEQ:=hH (show∀z∈dv.waits,Qdz z y=0→z=y from fun z hz e=>by
       rcases hcase with⟨h1,_⟩|⟨_,h2⟩
       ·exact Veo HSO.o hz h1 e
       ·exact absurd e (h2 z hz))
      obtain⟨th,hth⟩:∃b:Bool,Vd8 dv.waits y dv.waits.length=b:=⟨_,rfl⟩;have hfin:(th==decide (y.number≤sx))=false:=by
       rcases hcase with⟨h1,h2⟩|⟨h1,h2⟩
       ·rw[←hth,Ve5 h1,decide_eq_false oM];rfl
       ·rw[←hth,Vew h2,decide_eq_true h1];rfl
      have HTH:=hH hth;have HFI:=hH hfin;have HYN:=hH (fun(W:World) (hx:Ext wr W)=>gNo.ext hde hx);clear ek hym hyr eq1 isx cq hqz hsx hcase hth hfin hde;rw[hj] at u0 HYN;clear hj;go_wp2_with fail
      refine Qad (fun wd ewd=> ?_);have Db2:=rL ewd ⟨w.heap.size,2,none⟩ (.slice a2 lg.length k2);have Db4:=rL ewd ⟨w.heap.size,4,none⟩ (.slice (some ⟨b,o,none⟩) wt.length k4);have De2:=rL ewd ⟨w3.heap.size,2,none⟩ (.slice x2 y2 z2);have De3:=rL ewd ⟨w3.heap.size,3,none⟩ (.slice (some ⟨bq,oq,none⟩) 5 z3);have De4:=rL ewd ⟨w3.heap.size,4,none⟩ (.slice x4 dv.waits.length z4);obtain⟨y0,y1,y2,y3⟩:=rR4 ewd wr.heap.size (.int .i64 j) (.int .i64 y.number) (.slice b1 m1 f1) (.slice b2 m2 f2);have HRD:=hH (xE wr ewd);have HWD:=hH (ext_trans HWR.o HRD.o);have HYD:=hH (ext_trans HYR.o HRD.o);have zbd:w.heap.size<wd.heap.size:=World.block_lt_of_cell? _ _ Db2;have zad:w3.heap.size<wd.heap.size:=World.block_lt_of_cell? _ _ De2;have zyd:wr.heap.size<wd.heap.size:=World.block_lt_of_cell? _ _ y0;clear ewd Rb2 Rb4 Re2 Re3 Re4 u0 u1 u2 u3;generalize hwy:wr=wy at *;clear hwy;go_loopw [11,12] (fun tv kv wr=>∃k:Nat,k≤dv.waits.length∧kv= .int .i64 k∧Hid (tv= .bool (Vd8 dv.waits y k))∧Hid (Ext wd wr)) (fun _ kv _=>dv.waits.length-(intOf kv).toNat)
      case atStart=>exact⟨0,Nat.zero_le _,rfl,hH rfl,hH (ext_refl _)⟩
      case round=>
       obtain⟨k,hk,rfl,htv,HXD⟩:=hrel;obtain⟨tb,htb⟩:∃b:Bool,Vd8 dv.waits y k=b:=⟨_,rfl⟩;have htv2:=htv.out;rw[htb] at htv2;subst htv2;have HTB:=hH htb;clear htv htb;have Sb2:=(HXD.o.cells _ _ zbd).trans Db2;have Sb4:=(HXD.o.cells _ _ zbd).trans Db4;have Se2:=(HXD.o.cells _ _ zad).trans De2;have Se3:=(HXD.o.cells _ _ zad).trans De3;have Se4:=(HXD.o.cells _ _ zad).trans De4;have Sy0:=(HXD.o.cells _ _ zyd).trans y0;have Sy1:=(HXD.o.cells _ _ zyd).trans y1;have Sy2:=(HXD.o.cells _ _ zyd).trans y2;have Sy3:=(HXD.o.cells _ _ zyd).trans y3;have HSD:=hH (ext_trans HRD.o HXD.o);have zbs:=Nat.lt_of_lt_of_le zbd HXD.o.size;have zas:=Nat.lt_of_lt_of_le zad HXD.o.size;have zys:=Nat.lt_of_lt_of_le zyd HXD.o.size;have HWS:=hH (ext_trans HWD.o HXD.o);have HYS:=hH (ext_trans HYD.o HXD.o);by_cases hlt2:k<dv.waits.length
       ·obtain⟨bz,oz,z,g1,l1,h1,g2,l2,h2,rfl,hzz,ekz,hdz,v0,v1,v2,v3⟩:=Qdj (HW3.o.ext gNo HYS.o) hlt2;have HNX:=hH (Vep (y:=y) ekz);have HSM:=hH (fun(W:World) (hx:Ext wr W)=>Vek (gNo.ext hdz hx) (HYN.o W (ext_trans HRD.o (ext_trans HXD.o hx))) (HEQ.o z (List.mem_of_getElem? ekz)));clear ekz hdz;generalize z.site=zs at *;generalize z.number=zn at *;cases tb with
        |true=>
         exact Zbi
        |false=>
         exact Zbi
       ·obtain rfl:k=dv.waits.length:=oM;obtain rfl:th=tb:=HTH.o.symm.trans HTB.o;have hfi:=HFI.o;have cq:=(HSD.o.cells _ _ HQZ.o).trans HCQ.o;have zbq:=Nat.lt_of_lt_of_le HQZ.o HSD.o.size;go_wp2_with fail
        refine Qad (fun W6 eW6=> ?_);have h3:=rL eW6 ⟨w3.heap.size,3,none⟩ (.slice (some ⟨bq,oq,none⟩) 5 z3);have h9:=rL eW6 ⟨bq,oq+j,none⟩ (.int .i64 sx);obtain⟨i0,i1⟩:=rR2 eW6 wy.heap.size (.int .i64 j) (.int .i64 y.number);have zW6_0:=zE eW6 w3.heap.size;have zW6_1:=zE eW6 bq;have zW6_2:=zE eW6 wy.heap.size;have hw6:=xE wr eW6;clear eW6;refine Qaa fol kR (fun hlater=> ?_);repeat(go_big_quiet_step ((fail)))
        refine wpQuiet_nil ?_;rintro W7 ⟨⟨W7x,hx7⟩,rfl⟩;clear hlater;go_wp2_with fail
        go_roundw
        case rel=>exact⟨i+1,oM,by go_num,hH (ext_trans HXC.o (ext_trans HRD.o (ext_trans HXD.o (ext_trans hw6 hx7))))⟩
        case measure=>simp[intOf];omega
     ·go_wp2_with fail
      go_ret;exact⟨rfl,HWR.o⟩
 ·have HVB:=hH (show dv=noK from hdv.symm.trans (Qsp (by rw[hec];exact he)));rw[hec,hdv] at HRC;have t1:(ec !=0)=true:=by simpa using he
  clear hec hdv he;go_enter Tryz.func10,Tryz.ntmps10;go_wp2_with (first|(go_at_call 22;go_must ((with_reducible refine(Qhs _).mono ?_);rintro e w1 ⟨rfl,hx1⟩;obtain⟨c1_0,c1_1,c1_2,c1_3,c1_4,c1_5,c1_6⟩:=cC7 hx1 (w.heap.size) (.int .i64 st) (.slice a1 n1 k1) (.slice a2 lg.length k2) (.slice a3 n3 k3) (.slice a4 wt.length k4) (.int .i64 ck) (.slice a5 n5 k5);obtain⟨m1_0,m1_1,m1_2,m1_3⟩:=cC4 hx1 (w.heap.size+1) (.int .i64 n.site) (.int .i64 n.number) (.slice a6 n6 k6) (.slice a7 n7 k7);have hz1:=hx1.size;(try simp at hz1);obtain⟨hb1,hm1⟩:=zL2 hx1 w.heap.size;have HX1:=xY w hx1;clear hx1))|(go_at_call 25;go_must ((with_reducible refine(Vea _).mono ?_);rintro e w2 ⟨rfl,hx2⟩;obtain⟨c2_0,c2_1,c2_2,c2_3,c2_4,c2_5,c2_6⟩:=cC7 hx2 (w.heap.size) (.int .i64 st) (.slice a1 n1 k1) (.slice a2 lg.length k2) (.slice a3 n3 k3) (.slice a4 wt.length k4) (.int .i64 ck) (.slice a5 n5 k5);obtain⟨m2_0,m2_1,m2_2,m2_3⟩:=cC4 hx2 (w.heap.size+1) (.int .i64 n.site) (.int .i64 n.number) (.slice a6 n6 k6) (.slice a7 n7 k7);have hz2:=hx2.size;(try simp at hz2);obtain⟨hb2,hm2⟩:=zL2 hx2 w.heap.size;have HX2:=xX HX1 hx2;clear hx2))|(go_at_call 31;go_must ((with_reducible refine(HRC.o _ (ext_trans HX2.o Qac)).mono ?_);rintro e w3 ⟨x1,y1,z1,x2,y2,z2,x3,y3,z3,x4,y4,z4,x5,y5,z5,rfl,hd3,hx3⟩;obtain⟨c3_0,c3_1,c3_2,c3_3,c3_4,c3_5,c3_6⟩:=cC7 hx3 (w.heap.size) (.int .i64 st) (.slice a1 n1 k1) (.slice a2 lg.length k2) (.slice a3 n3 k3) (.slice a4 wt.length k4) (.int .i64 ck) (.slice a5 n5 k5);have hz3:=hx3.size;(try simp at hz3);have hb3:=zL hx3 w.heap.size;have HX3:=xX HX2 hx3;have HD3:=hH hd3;clear hd3 hx3))|(go_at_call 48;go_must ((with_reducible refine(Qwf (gDk.ext HD3.o Qac) HVB.o).mono ?_);rintro e w4 ⟨rfl,hx4⟩;have HX4:=xX HX3 hx4;clear hx4)))
  go_ret;exact⟨rfl,HX4.o⟩
end Go.Proofs.YtgnccjojfebkeaaGreat
