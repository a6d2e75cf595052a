/- A client's text edited in a world. -/
import Derived.Test.YtgnccjojfebkeaaGreatQff6e536ca3
import Derived.Test.YtgnccjojfebkeaaGreatQ3b8532dffc
import Derived.Test.YtgnccjojfebkeaaGreatQ9ccf8d356f
import Derived.Deep.RegionLaw
import Derived.Deep.Cut
import Derived.Test.YtgnccjojfebkeaaGreatQ7635b71608
import Derived.Test.YtgnccjojfebkeaaGreatQd02bb5fa7b
import Derived.Test.YtgnccjojfebkeaaGreatQ28838248a8
import Derived.Test.YtgnccjojfebkeaaGreatQ456e2e86ee
import Derived.Test.YtgnccjojfebkeaaGreatQb497ca1fba
set_option linter.unusedVariables false
set_option linter.unusedSimpArgs false
set_option maxRecDepth 100000
set_option maxHeartbeats 40000000
namespace Go.Proofs.YtgnccjojfebkeaaGreat
open Go Go.RowKit Go.BigFrame Cp
def Vid (x:Wd) (B b g cap:Nat) (w:World) (e:Ending) (w':World):Prop:=e= .returned (.tuple #[])∧IsStep x B b g cap w w'
theorem Vfq {B b g cap:Nat} {x:Wd} {w:World} {u:Value} (h:WdAt B b x w g cap u) (hB:B≤w.heap.size) {V:World} (hV:w.heap.size≤V.heap.size) {k:Nat} (hk:V.heap.size+1≤k):(B≤k∧k≠b∧some k≠u.ownBlock)∧k≠g:=by
 have h1:=h.lt;have h2:=h.glt.2;exact⟨⟨oM,oM,fun e=>by have:=(Qak h.log k e.symm).2;omega⟩,oM⟩
theorem Vjo {h:Hap} {x:Wd} {i:Nat} {c:Cl} {er:Int} {dv:Dk} (he:Vfo h c.desk=er) (hv:Vfg h c.desk=dv):(er=0→Vgq h x i c={x with clients:=x.clients.set i {c with desk:=dv}})∧(¬er=0→Vgq h x i c=x):=by
 subst he hv;unfold Vgq;exact⟨fun e=>if_pos e,fun e=>if_neg e⟩
theorem Vjq {h:Hap} {d:Dk} (k:h.kind=1):Vfo h d=Qjg d (Veg h d.state.1.length) h.text.data.toList∧Vfg h d=Qj8 d (Veg h d.state.1.length) h.text.data.toList:=by unfold Vfo Vfg;exact⟨if_pos k,if_pos k⟩
theorem Vil {h:Hap} {d:Dk} (k:h.kind=2):Vfo h d=Q5n d (Veg h d.state.1.length) (Vh1 h d.state.1.length)∧Vfg h d=Q5o d (Veg h d.state.1.length) (Vh1 h d.state.1.length):=by
 have h1:¬h.kind=1:=oM;unfold Vfo Vfg;rw[if_neg h1,if_neg h1];exact⟨if_pos k,if_pos k⟩
theorem Vh0 {h:Hap} {d:Dk} (k:h.kind=5):Vfo h d=Vcf d h.text.data.toList∧Vfg h d=Vap d h.text.data.toList:=by
 have h1:¬h.kind=1:=oM;have h2:¬h.kind=2:=oM;unfold Vfo Vfg;rw[if_neg h1,if_neg h1,if_neg h2,if_neg h2];exact⟨rfl,rfl⟩
theorem Zbi {p:Prop} (h:p:=by
 have hX3:=HX3.o;by_cases h0:er=0
 ·have t9:(er==0)=true:=by simp[h0]
  have HE0:=hH h0;clear h0;go_upto_region 13 with fail
  refine Qad (fun U eU=> ?_);have HXU:=hH (xE V eU);have HDU:=hH (show RDk (fun k=>V.heap.size+1≤k) U [.int .i64 dv.site,.slice xa1 xn1 xc1,.slice xa2 xn2 xc2,.slice xa3 xn3 xc3,.slice xa4 xn4 xc4,.int .i64 dv.clock,.slice xa5 xn5 xc5] dv by rw[eU];exact gDk.keep (by repeat(first|(with_reducible exact Qag)|(with_reducible refine Qbh ?_)|(with_reducible refine Qae ?_ (fun _ h=>by have h':V.heap.size+1≤V.heap.size:=h;omega) _))) HD3.o);obtain⟨r_0,r_1,r_2,r_3,r_4,r_5,r_6⟩:=rR7 eU V.heap.size (.int .i64 dv.site) (.slice xa1 xn1 xc1) (.slice xa2 xn2 xc2) (.slice xa3 xn3 xc3) (.slice xa4 xn4 xc4) (.int .i64 dv.clock) (.slice xa5 xn5 xc5);have s_0:=rL eU ⟨g,i * 8,none⟩ (.int .i64 c.desk.site);have s_1:=rL eU ⟨g,i * 8+1,none⟩ (.slice a1 n1 c1);have s_2:=rL eU ⟨g,i * 8+2,none⟩ (.slice a2 n2 c2);have s_3:=rL eU ⟨g,i * 8+3,none⟩ (.slice a3 n3 c3);have s_4:=rL eU ⟨g,i * 8+4,none⟩ (.slice a4 n4 c4);have s_5:=rL eU ⟨g,i * 8+5,none⟩ (.int .i64 c.desk.clock);have s_6:=rL eU ⟨g,i * 8+6,none⟩ (.slice a5 n5 c5);have o_0:U.frozen? ⟨g,i * 8,none⟩=false:=by rw[eU];go_simp
  have o_1:U.frozen? ⟨g,i * 8+1,none⟩=false:=by rw[eU];go_simp
  have o_2:U.frozen? ⟨g,i * 8+2,none⟩=false:=by rw[eU];go_simp
  have o_3:U.frozen? ⟨g,i * 8+3,none⟩=false:=by rw[eU];go_simp
  have o_4:U.frozen? ⟨g,i * 8+4,none⟩=false:=by rw[eU];go_simp
  have o_5:U.frozen? ⟨g,i * 8+5,none⟩=false:=by rw[eU];go_simp
  have o_6:U.frozen? ⟨g,i * 8+6,none⟩=false:=by rw[eU];go_simp
  have hgv:g<U.heap.size:=World.block_lt_of_cell? _ _ s_0;have hbv:V.heap.size<U.heap.size:=World.block_lt_of_cell? _ _ r_0;have HXW:=hH (ext_trans HXV.o HXU.o);clear eU z3_0 g3_0 y3_0 f3_0 v_0 w_0 z3_1 g3_1 y3_1 f3_1 v_1 w_1 z3_2 g3_2 y3_2 f3_2 v_2 w_2 z3_3 g3_3 y3_3 f3_3 v_3 w_3 z3_4 g3_4 y3_4 f3_4 v_4 w_4 z3_5 g3_5 y3_5 f3_5 v_5 w_5 z3_6 g3_6 y3_6 f3_6 v_6 w_6 HX3 HD3 hX3;go_wp2_with fail
  go_end0
  rw[HS.o.1 HE0.o];exact⟨rfl,⟨u,(H.out.ext HXW.o).desk_ HC.o HDU.o (fun k hk hl=>Vfq H.out HBW.o HXV.o.size hk)⟩,fun A ha hA=>Vez (Nat.le_trans hA H.out.glt.1) [.int .i64 dv.site,.slice xa1 xn1 xc1,.slice xa2 xn2 xc2,.slice xa3 xn3 xc3,.slice xa4 xn4 xc4,.int .i64 dv.clock,.slice xa5 xn5 xc5] (i * 8+0) U (ext_trans ha HXW.o)⟩
 ·have t9:(er==0)=false:=by simpa using h0
  have HE0:=hH h0;clear h0;go_wp2_with fail
  go_end0
  rw[HS.o.2 HE0.o];exact⟨rfl,⟨u,H.out.ext (ext_trans HXV.o Qac)⟩,fun A ha _=>ext_trans ha (ext_trans HXV.o Qac)⟩):p:=h
theorem Vjp {B b g cap i:Nat} {x:Wd} {c:Cl} {u:Value} {w:World} {h:Hap} (hw:WdAt B b x w g cap u) (hr:RightX x) (hc:x.clients[i]?=some c) (hB:B≤w.heap.size) (hk:h.kind=1∨h.kind=2∨h.kind=5) (ha:0≤h.at_∧h.at_≤300) (hm:0≤h.many∧h.many≤300) (ht:h.text.size≤300):
  Calls Tryz.prog 187 #[.pointer (some ⟨b,0,none⟩),.pointer (some ⟨g,i * 8,none⟩),.agg #[.int .i64 h.kind,.int .i64 h.who,.int .i64 h.at_,.int .i64 h.many,.string h.text,.bool h.lost]] w (Vid (Vgq h x i c) B b g cap w):=by
 obtain⟨a1,n1,c1,a2,n2,c2,a3,n3,c3,a4,n4,c4,a5,n5,c5,ic,hd,⟨y0,y1,y2,y3,y4,y5,y6,_⟩,hfz⟩:=hw.at_ hc;have H:=hH hw;have HC:=hH hc;have HBW:=hH hB;have hbz:=hw.lt;have hgz:=hw.glt.2;have hrd:=(hr.desk i c hc).1;have hn1:n1=c.desk.state.1.length:=(Vea hd).1.len.1;have hn3:n1≤300:=by rw[hn1];exact hrd.state.2.1
 have hf_all:∀k,w.frozen? ⟨g,k,none⟩=false:=hfz;have f0:=hf_all (i * 8);have f1:=hf_all (i * 8+1);have f2:=hf_all (i * 8+2);have f3:=hf_all (i * 8+3);have f4:=hf_all (i * 8+4);have f5:=hf_all (i * 8+5);have f6:=hf_all (i * 8+6);obtain⟨q,hq⟩:∃q:Nat,h.at_=(q:Int):=⟨h.at_.toNat,oM⟩;obtain⟨j,hj⟩:∃j:Nat,h.many=(j:Int):=⟨h.many.toNat,oM⟩;obtain⟨p,hp⟩:∃p:Nat,Veg h n1=(p:Int):=⟨(Veg h n1).toNat,by unfold Veg;split<;>omega⟩;have hpn:p≤n1:=by unfold Veg at hp;split at hp<;>omega
 obtain⟨er,her⟩:∃e:Int,Vfo h c.desk=e:=⟨_,rfl⟩;obtain⟨dv,hdv⟩:∃e:Dk,Vfg h c.desk=e:=⟨_,rfl⟩;have HS:=hH (Vjo (x:=x) (i:=i) her hdv);have HDE:=hH (fun(W:World) (hx:Ext w W)=>gDk.ext hd hx);have hq3:q≤300:=oM;have hj3:j≤300:=oM;have HQ:=hH hq;have HJ:=hH hj;have HP:=hH hp;have HN:=hH hn1;have HH:=hH (And.intro her hdv);have HTS:=hH ht;clear hw hr hc hB hd hfz hf_all hrd ic ha hm hn1 her hdv ht hp;go_enter Tryz.func187,Tryz.ntmps187;go_upto_region 2 with fail
 refine Qad (fun V eV=> ?_);have HXV:=hH (xE w eV);have k_0:=rL eV ⟨w.heap.size,0,none⟩ (.int .i64 h.kind);have k_2:=rL eV ⟨w.heap.size,2,none⟩ (.int .i64 h.at_);have k_3:=rL eV ⟨w.heap.size,3,none⟩ (.int .i64 h.many);have k_4:=rL eV ⟨w.heap.size,4,none⟩ (.string h.text);have v_0:=rL eV ⟨g,i * 8,none⟩ (.int .i64 c.desk.site);have w_0:V.frozen? ⟨g,i * 8,none⟩=false:=by rw[eV];go_simp
 have v_1:=rL eV ⟨g,i * 8+1,none⟩ (.slice a1 n1 c1);have w_1:V.frozen? ⟨g,i * 8+1,none⟩=false:=by rw[eV];go_simp
 have v_2:=rL eV ⟨g,i * 8+2,none⟩ (.slice a2 n2 c2);have w_2:V.frozen? ⟨g,i * 8+2,none⟩=false:=by rw[eV];go_simp
 have v_3:=rL eV ⟨g,i * 8+3,none⟩ (.slice a3 n3 c3);have w_3:V.frozen? ⟨g,i * 8+3,none⟩=false:=by rw[eV];go_simp
 have v_4:=rL eV ⟨g,i * 8+4,none⟩ (.slice a4 n4 c4);have w_4:V.frozen? ⟨g,i * 8+4,none⟩=false:=by rw[eV];go_simp
 have v_5:=rL eV ⟨g,i * 8+5,none⟩ (.int .i64 c.desk.clock);have w_5:V.frozen? ⟨g,i * 8+5,none⟩=false:=by rw[eV];go_simp
 have v_6:=rL eV ⟨g,i * 8+6,none⟩ (.slice a5 n5 c5);have w_6:V.frozen? ⟨g,i * 8+6,none⟩=false:=by rw[eV];go_simp
 have hgV:g<V.heap.size:=World.block_lt_of_cell? _ _ v_0;have hbV:w.heap.size<V.heap.size:=World.block_lt_of_cell? _ _ k_0;clear eV y0 y1 y2 y3 y4 y5 y6 f0 f1 f2 f3 f4 f5 f6;go_cut [7] from 17 to 20 (fun s7 wx=>s7= .int .i64 (p:Nat)∧wx=V)
 case first=>
  have HMN:=hH (show min h.at_ (n1:Int)=(p:Int) from by have h1:=HP.o;unfold Veg at h1;split at h1<;>omega);clear hq hj;go_wp2_with fail
  go_meet
  exact⟨congrArg (Value.int .i64) HMN.o,rfl⟩
 case rest=>
  obtain⟨rfl,hWV⟩:=hcut;have hWV:=hWV.symm;subst hWV;by_cases hk1:h.kind=1
  ·have k1:(h.kind==1)=true:=by simp[hk1]
   have HTX:=hH (fun(W:World) (hx:Ext V W)=>(Qth (HDE.o W (ext_trans HXV.o hx)) (Qal (show -100000≤(p:Int) by omega) (show(p:Int)≤100000 by omega)) (Nat.le_trans HTS.o oM)).mono fun _ _ h=>Vhp h);obtain⟨g1,g2⟩:=Vjq (h:=h) (d:=c.desk) hk1;rw[←HN.o,HP.o] at g1 g2;rw[←g1,←g2,HH.o.1,HH.o.2] at HTX;clear g1 g2 hk hk1 HJ hj hq;go_upto_region 7 with fail
   go_region_law (first|(go_simp;go_at_call 35;go_must ((with_reducible refine(HTX.o _ Qac).mono ?_);rintro e w3 ⟨xa1,xn1,xc1,xa2,xn2,xc2,xa3,xn3,xc3,xa4,xn4,xc4,xa5,xn5,xc5,rfl,hd3,hx3⟩;obtain⟨z3_0,z3_1,z3_2,z3_3,z3_4,z3_5,z3_6⟩:=cC7 hx3 (V.heap.size) (.int .i64 0) (.slice none 0 0) (.slice none 0 0) (.slice none 0 0) (.slice none 0 0) (.int .i64 0) (.slice none 0 0);have g3_0:=fL hx3 (V.heap.size) 0;have g3_1:=fL hx3 (V.heap.size) 1;have g3_2:=fL hx3 (V.heap.size) 2;have g3_3:=fL hx3 (V.heap.size) 3;have g3_4:=fL hx3 (V.heap.size) 4;have g3_5:=fL hx3 (V.heap.size) 5;have g3_6:=fL hx3 (V.heap.size) 6;have y3_0:=hx3.cl g (i * 8) (.int .i64 c.desk.site);have y3_1:=hx3.cl g (i * 8+1) (.slice a1 n1 c1);have y3_2:=hx3.cl g (i * 8+2) (.slice a2 n2 c2);have y3_3:=hx3.cl g (i * 8+3) (.slice a3 n3 c3);have y3_4:=hx3.cl g (i * 8+4) (.slice a4 n4 c4);have y3_5:=hx3.cl g (i * 8+5) (.int .i64 c.desk.clock);have y3_6:=hx3.cl g (i * 8+6) (.slice a5 n5 c5);have f3_0:=fL hx3 g (i * 8);have f3_1:=fL hx3 g (i * 8+1);have f3_2:=fL hx3 g (i * 8+2);have f3_3:=fL hx3 g (i * 8+3);have f3_4:=fL hx3 g (i * 8+4);have f3_5:=fL hx3 g (i * 8+5);have f3_6:=fL hx3 g (i * 8+6);have hg3:g<w3.heap.size:=Nat.lt_of_lt_of_le hgV (show Ext V w3 from ext_trans Qac hx3).size;have hz3:=hx3.size;(try simp at hz3);have hb3:=zL hx3 V.heap.size;have HX3:=xY V hx3;have HD3:=hH (gDk.more (G:=fun k=>V.heap.size+1≤k) (fun k hk _=>Nat.le_trans ltA hk) hd3);clear hd3 hx3)))
   all_goals
    exact Zbi
  have k1:(h.kind==1)=false:=by simpa using hk1
  by_cases hk2:h.kind=2
  ·have k2:(h.kind==2)=true:=by simp[hk2]
   obtain⟨g1,g2⟩:=Vil (h:=h) (d:=c.desk) hk2;rw[←HN.o,HP.o] at g1 g2;have ew:IntKind.i64.wrap ((n1:Int)-(p:Int))=(n1:Int)-(p:Int):=by rw[IntWalk.i64_in _ oM]
   have em:Vh1 h n1=min h.many (IntKind.i64.wrap ((n1:Int)-(p:Int))):=by rw[ew];unfold Vh1;rw[HP.o];split<;>omega
   have ei:I64 (min h.many (IntKind.i64.wrap ((n1:Int)-(p:Int)))):=by rw[ew];exact Qal (show -100000≤min h.many ((n1:Int)-(p:Int)) by omega) (show min h.many ((n1:Int)-(p:Int))≤100000 by omega)
   rw[em] at g1 g2;have HCX:=hH (fun(W:World) (hx:Ext V W)=>(Q1w (HDE.o W (ext_trans HXV.o hx)) (Qal (show -100000≤(p:Int) by omega) (show(p:Int)≤100000 by omega)) ei).mono fun _ _ h=>Vhp h);rw[←g1,←g2,HH.o.1,HH.o.2] at HCX;clear g1 g2 em ew ei hk hk1 hk2 HJ hj hq;go_upto_region 9 with fail
   go_region_law (first|(go_simp;go_at_call 36;go_must ((with_reducible refine(HCX.o _ Qac).mono ?_);rintro e w3 ⟨xa1,xn1,xc1,xa2,xn2,xc2,xa3,xn3,xc3,xa4,xn4,xc4,xa5,xn5,xc5,rfl,hd3,hx3⟩;obtain⟨z3_0,z3_1,z3_2,z3_3,z3_4,z3_5,z3_6⟩:=cC7 hx3 (V.heap.size) (.int .i64 0) (.slice none 0 0) (.slice none 0 0) (.slice none 0 0) (.slice none 0 0) (.int .i64 0) (.slice none 0 0);have g3_0:=fL hx3 (V.heap.size) 0;have g3_1:=fL hx3 (V.heap.size) 1;have g3_2:=fL hx3 (V.heap.size) 2;have g3_3:=fL hx3 (V.heap.size) 3;have g3_4:=fL hx3 (V.heap.size) 4;have g3_5:=fL hx3 (V.heap.size) 5;have g3_6:=fL hx3 (V.heap.size) 6;have y3_0:=hx3.cl g (i * 8) (.int .i64 c.desk.site);have y3_1:=hx3.cl g (i * 8+1) (.slice a1 n1 c1);have y3_2:=hx3.cl g (i * 8+2) (.slice a2 n2 c2);have y3_3:=hx3.cl g (i * 8+3) (.slice a3 n3 c3);have y3_4:=hx3.cl g (i * 8+4) (.slice a4 n4 c4);have y3_5:=hx3.cl g (i * 8+5) (.int .i64 c.desk.clock);have y3_6:=hx3.cl g (i * 8+6) (.slice a5 n5 c5);have f3_0:=fL hx3 g (i * 8);have f3_1:=fL hx3 g (i * 8+1);have f3_2:=fL hx3 g (i * 8+2);have f3_3:=fL hx3 g (i * 8+3);have f3_4:=fL hx3 g (i * 8+4);have f3_5:=fL hx3 g (i * 8+5);have f3_6:=fL hx3 g (i * 8+6);have hg3:g<w3.heap.size:=Nat.lt_of_lt_of_le hgV (show Ext V w3 from ext_trans Qac hx3).size;have hz3:=hx3.size;(try simp at hz3);have hb3:=zL hx3 V.heap.size;have HX3:=xY V hx3;have HD3:=hH (gDk.more (G:=fun k=>V.heap.size+1≤k) (fun k hk _=>Nat.le_trans ltA hk) hd3);clear hd3 hx3)))
   all_goals
    exact Zbi
  have k2:(h.kind==2)=false:=by simpa using hk2
  have hk5:h.kind=5:=oM;have k5:(h.kind==5)=true:=by simp[hk5]
  have HWX:=hH (fun(W:World) (hx:Ext V W)=>(Q1x (HDE.o W (ext_trans HXV.o hx)) (Nat.le_trans HTS.o oM)).mono fun _ _ h=>Vhp h);obtain⟨g1,g2⟩:=Vh0 (h:=h) (d:=c.desk) hk5;rw[←g1,←g2,HH.o.1,HH.o.2] at HWX;clear g1 g2 hk hk1 hk2 hk5 HJ hj hq;go_upto_region 11 with fail
  go_region_law (first|(go_simp;go_at_call 37;go_must ((with_reducible refine(HWX.o _ Qac).mono ?_);rintro e w3 ⟨xa1,xn1,xc1,xa2,xn2,xc2,xa3,xn3,xc3,xa4,xn4,xc4,xa5,xn5,xc5,rfl,hd3,hx3⟩;obtain⟨z3_0,z3_1,z3_2,z3_3,z3_4,z3_5,z3_6⟩:=cC7 hx3 (V.heap.size) (.int .i64 0) (.slice none 0 0) (.slice none 0 0) (.slice none 0 0) (.slice none 0 0) (.int .i64 0) (.slice none 0 0);have g3_0:=fL hx3 (V.heap.size) 0;have g3_1:=fL hx3 (V.heap.size) 1;have g3_2:=fL hx3 (V.heap.size) 2;have g3_3:=fL hx3 (V.heap.size) 3;have g3_4:=fL hx3 (V.heap.size) 4;have g3_5:=fL hx3 (V.heap.size) 5;have g3_6:=fL hx3 (V.heap.size) 6;have y3_0:=hx3.cl g (i * 8) (.int .i64 c.desk.site);have y3_1:=hx3.cl g (i * 8+1) (.slice a1 n1 c1);have y3_2:=hx3.cl g (i * 8+2) (.slice a2 n2 c2);have y3_3:=hx3.cl g (i * 8+3) (.slice a3 n3 c3);have y3_4:=hx3.cl g (i * 8+4) (.slice a4 n4 c4);have y3_5:=hx3.cl g (i * 8+5) (.int .i64 c.desk.clock);have y3_6:=hx3.cl g (i * 8+6) (.slice a5 n5 c5);have f3_0:=fL hx3 g (i * 8);have f3_1:=fL hx3 g (i * 8+1);have f3_2:=fL hx3 g (i * 8+2);have f3_3:=fL hx3 g (i * 8+3);have f3_4:=fL hx3 g (i * 8+4);have f3_5:=fL hx3 g (i * 8+5);have f3_6:=fL hx3 g (i * 8+6);have hg3:g<w3.heap.size:=Nat.lt_of_lt_of_le hgV (show Ext V w3 from ext_trans Qac hx3).size;have hz3:=hx3.size;(try simp at hz3);have hb3:=zL hx3 V.heap.size;have HX3:=xY V hx3;have HD3:=hH (gDk.more (G:=fun k=>V.heap.size+1≤k) (fun k hk _=>Nat.le_trans ltA hk) hd3);clear hd3 hx3)))
  all_goals
   exact Zbi
theorem IsStep.pre {x:Wd} {B b g cap:Nat} {w V w':World} (h:IsStep x B b g cap V w') (hx:Ext w V):IsStep x B b g cap w w':=⟨h.1,fun A ha hA=>h.2 A (ext_trans ha hx) hA⟩
theorem Vjn {h:Hap} {x:Wd} {i:Nat} {c:Cl} (k:h.kind=3):doC h x i c=Veh h.lost x i c:=by unfold doC;exact if_pos k
theorem Vjl {h:Hap} {x:Wd} {i:Nat} {c:Cl} (k:h.kind=4) (l:h.lost=true):doC h x i c=x:=by unfold doC;rw[if_neg oM,if_pos k,if_pos l]
theorem Vjm {h:Hap} {x:Wd} {i:Nat} {c:Cl} (k:h.kind=4) (l:h.lost=false):doC h x i c=Ved h.many x i c:=by unfold doC;rw[if_neg oM,if_pos k,if_neg (by simp[l])]
theorem Vjk {h:Hap} {x:Wd} {i:Nat} {c:Cl} (k:¬h.kind=3) (l:¬h.kind=4):doC h x i c=Vgq h x i c:=by unfold doC;rw[if_neg k,if_neg l]
theorem Vij {B b g cap:Nat} {x:Wd} {u:Value} {w:World} {h:Hap} (hw:WdAt B b x w g cap u) (hr:RightX x) (he:Vfa x.clients.length h=0) (hB:B≤w.heap.size):
  Calls Tryz.prog 137 #[.pointer (some ⟨b,0,none⟩),.agg #[.int .i64 h.kind,.int .i64 h.who,.int .i64 h.at_,.int .i64 h.many,.string h.text,.bool h.lost]] w (Vid (doW x h) B b g cap w):=by
 obtain⟨c,hc⟩:=Vkm he;obtain⟨⟨hk1,hk5⟩,⟨hw0,hw1⟩,_,hat,hmany,htext⟩:=Vg6 he;rw[Vkh hc];obtain⟨i,hi⟩:∃i:Nat,h.who=(i:Int):=⟨h.who.toNat,oM⟩;rw[show h.who.toNat=i by omega] at hc ⊢;have hil:i<x.clients.length:=oM;have H:=hH hw;have HSN:=hH (fun(W:World) (hx:Ext w W) (l:Bool)=>Vhz (lost:=l) (hw.ext hx) hr hc (Nat.le_trans hB hx.size));have HPL:=hH (fun(W:World) (hx:Ext w W)=>Vgw (m:=h.many) (hw.ext hx) hr hc (Nat.le_trans hB hx.size) hmany);have HED:=hH (fun(k:h.kind=1∨h.kind=2∨h.kind=5) (W:World) (hx:Ext w W)=>Vjp (h:=h) (hw.ext hx) hr hc (Nat.le_trans hB hx.size) k hat hmany htext);have e0:=hw.c0;have hbz:=hw.lt;clear hw hr he hat hmany htext hc;go_enter Tryz.func137,Tryz.ntmps137;go_upto_region 1 with fail
 refine Qad (fun V eV=> ?_);have HXV:=hH (xE w eV);obtain⟨k_0,k_1,k_2,k_3,k_4,k_5⟩:=rR6 eV w.heap.size (.int .i64 h.kind) (.int .i64 h.who) (.int .i64 h.at_) (.int .i64 h.many) (.string h.text) (.bool h.lost);have c0:=rL eV ⟨b,0,none⟩ (.slice (some ⟨g,0,none⟩) x.clients.length cap);have hV:w.heap.size<V.heap.size:=World.block_lt_of_cell? _ _ k_0;have hbV:b<V.heap.size:=World.block_lt_of_cell? _ _ c0;have HI:=hH hi;clear eV e0 hi hw0 hw1;go_cut [4] from 5 to 12 (fun s wx=>s= .pointer (some ⟨g,i * 8,none⟩)∧Hid (Ext V wx))
 case first=>
  rw[HI.o] at k_1;go_quiet (fail)
  go_wp2_with fail
  go_meet
  exact⟨sI,hH Qac⟩
 case rest=>
  obtain⟨rfl,HXC⟩:=hcut;obtain⟨j_0,j_1,j_2,j_3,j_4,j_5⟩:=tT6 HXC.o hV k_0 k_1 k_2 k_3 k_4 k_5;have hC:w.heap.size<wc.heap.size:=Nat.lt_of_lt_of_le hV HXC.o.size;have HXW:=hH (ext_trans HXV.o HXC.o);clear HXV k_0 k_1 k_2 k_3 k_4 k_5;have HXV:=HXW;clear HXW HXC c0 hV hbV;by_cases hk3:h.kind=3
  ·have t1:(h.kind==3)=true:=by simp[hk3]
   have HE:=hH (Vjn (x:=x) (i:=i) (c:=c) hk3);have HSS:=hH (fun(W:World) (hx:Ext w W)=>HSN.o W hx h.lost);clear hk3 hk1 hk5 HSN;go_wp2_with (first|(go_at_call 111;go_must ((with_reducible refine(HSS.o _ (ext_trans HXV.o Qac)).mono ?_);rintro e w3 ⟨rfl,hst⟩;have HS3:=hH hst;clear hst)))
   go_end0
   rw[HE.o];exact⟨rfl,HS3.o.pre (ext_trans HXV.o Qac)⟩
  have t1:(h.kind==3)=false:=by simpa using hk3
  by_cases hk4:h.kind=4
  ·have t2:(h.kind==4)=true:=by simp[hk4]
   cases hl:h.lost with
   |true=>
    have HE:=hH (Vjl (x:=x) (i:=i) (c:=c) hk4 hl);rw[hl] at j_5;clear hk3 hk4 hk1 hk5 hl;go_wp2_with fail
    go_end0
    rw[HE.o];exact⟨rfl,⟨u,H.out.ext (ext_trans HXV.o Qac)⟩,fun A ha _=>ext_trans ha (ext_trans HXV.o Qac)⟩
   |false=>
    have HE:=hH (Vjm (x:=x) (i:=i) (c:=c) hk4 hl);rw[hl] at j_5;clear hk3 hk4 hk1 hk5 hl;go_wp2_with (first|(go_at_call 112;go_must ((with_reducible refine(HPL.o _ (ext_trans HXV.o Qac)).mono ?_);rintro e w3 ⟨rfl,hst⟩;have HS3:=hH hst;clear hst)))
    go_end0
    rw[HE.o];exact⟨rfl,HS3.o.pre (ext_trans HXV.o Qac)⟩
  have t2:(h.kind==4)=false:=by simpa using hk4
  have HE:=hH (Vjk (x:=x) (i:=i) (c:=c) hk3 hk4);have HEE:=hH (HED.o oM);clear hk3 hk4 hk1 hk5 HED;go_wp2_with (first|(go_at_call 187;go_must ((with_reducible refine(HEE.o _ (ext_trans HXV.o Qac)).mono ?_);rintro e w3 ⟨rfl,hst⟩;have HS3:=hH hst;clear hst)))
  go_end0
  rw[HE.o];exact⟨rfl,HS3.o.pre (ext_trans HXV.o Qac)⟩
def Vk6 (d:Dk) (w:World) (e:Ending) (w':World):Prop:=
 ∃(a1:Option Addr) (n1 c1:Nat) (a2:Option Addr) (n2 c2:Nat) (a3:Option Addr) (n3 c3:Nat) (a4:Option Addr) (n4 c4:Nat) (a5:Option Addr) (n5 c5:Nat),e= .returned (.agg #[.int .i64 d.site,.slice a1 n1 c1,.slice a2 n2 c2,.slice a3 n3 c3,.slice a4 n4 c4,.int .i64 d.clock,.slice a5 n5 c5])∧RDk (fun k=>w.heap.size≤k) w' [.int .i64 d.site,.slice a1 n1 c1,.slice a2 n2 c2,.slice a3 n3 c3,.slice a4 n4 c4,.int .i64 d.clock,.slice a5 n5 c5] d∧Ext w w'
theorem Vkx {d:Dk} {w:World} {e:Ending} {w':World} (h:Vay d w e w'):Vk6 d w e w':=by
 obtain⟨va,vg,vs,vw,vo,rfl,hd,hx⟩:=h;have hr:=(hd (fun _=>False) (fun _ h=>h.elim)).read;obtain⟨h1,h2,h3,h4,h5⟩:=Vea hr;obtain⟨a1,n1,c1,rfl⟩:=h1.slice;obtain⟨a2,n2,c2,rfl⟩:=h2.slice;obtain⟨a3,n3,c3,rfl⟩:=h3.slice;obtain⟨a4,n4,c4,rfl⟩:=h4.slice;obtain⟨a5,n5,c5,rfl⟩:=h5.slice;exact⟨_,_,_,_,_,_,_,_,_,_,_,_,_,_,_,rfl,hr,hx⟩
theorem Vlb {F:Nat→Prop} {w:World} {va vg vs vw vo:Value} {c:Cl} (h:RDk F w [.int .i64 c.desk.site,va,vg,vs,vw,.int .i64 c.desk.clock,vo] c.desk) (hk:I64 c.cursor):RCl F w [.int .i64 c.desk.site,va,vg,vs,vw,.int .i64 c.desk.clock,vo,.int .i64 c.cursor] c:=⟨_,_,_,_,_,rfl,h,hk⟩
def Vke (x:Wd) (w:World) (e:Ending) (w':World):Prop:=
 ∃a n c a' n' c',e= .returned (.agg #[.slice a n c,.slice a' n' c'])∧OSl RCl 8 73 w.heap.size (fun j=>w.heap.size≤j∧some j≠(Value.slice a' n' c').ownBlock) w' (.slice a n c) x.clients∧OSl RNo 4 48 w.heap.size (fun j=>w.heap.size≤j∧some j≠(Value.slice a n c).ownBlock) w' (.slice a' n' c') x.log∧(∀k,(Value.slice a' n' c').ownBlock=some k→(Value.slice a n c).ownBlock≠some k)∧Ext w w'
theorem Vky {x:Wd} {w wr w':World} {bo:Nat} {av a':Option Addr} {n c n' c':Nat} (hbo:w.heap.size+1<bo) (ho:OSl RCl 8 73 (bo+1) (fun j=>bo<j) wr (.slice av n c) x.clients) (hl:OSl RNo 4 48 (w.heap.size+2) (fun j=>w.heap.size+2≤j∧j<bo) wr (.slice a' n' c') x.log) (hu:∀k,(Value.slice a' n' c').ownBlock=some k→w.heap.size+2≤k∧k<bo) (hk:Keeps (fun j=>¬(j=w.heap.size+1)∧¬j=bo) wr w') (hx:Ext w w'):
  Vke x w (.returned (.agg #[.slice av n c,.slice a' n' c'])) w':=by
 have lo:=Qak ho;refine⟨_,_,_,_,_,_,rfl,?_,?_,fun k hk' e=>by have h1:=hu k hk';have h2:=(lo k e).1;omega,hx⟩
 ·have h1:=Qa8 gCl ho (hk.weaken fun k _ hk=>by
   rcases hk with hk|hk
   ·have hk':bo<k:=hk;exact⟨oM,oM⟩
   ·have:=(lo k hk.symm).1;exact⟨oM,oM⟩)
  exact Qbt gCl (Qcx oM h1) (fun k hk _ _=>by have hk':bo<k:=hk;exact⟨oM,fun e=>by have:=hu k e.symm;omega⟩)
 ·have h1:=Qa8 gNo hl (hk.weaken fun k _ hk=>by
   rcases hk with hk|hk
   ·have h1:=hk.1;have h2:=hk.2;exact⟨oM,oM⟩
   ·have h1:=hu k hk.symm;exact⟨oM,oM⟩)
  exact Qbt gNo (Qcx oM h1) (fun k hk _ _=>⟨by have h1:=hk.1;omega,fun e=>by have h2:=(lo k e.symm).1;have h3:=hk.2;omega⟩)
theorem Vei {F:Nat→Prop} {w:World} {v u:Value} {x:Wd} (h:RWd F w v u x) (hr:RightX x):
  Calls Tryz.prog 110 #[.agg #[v,u]] w (Vke x w):=by
 have HR:=hH hr;have HCL:=hH (fun(W:World) (hx:Ext w W)=>h.1.ext gCl hx);have HRO:=hH (fun(W:World) (hx:Ext w W)=>Vgt (h.2.ext gNo hx) (Nat.le_trans (checkLog_ok.1 hr.log).1 oM) (fun n hn=>by obtain⟨i,hi⟩:=List.getElem?_of_mem hn;exact((checkLog_ok.1 hr.log).2 i n hi).1));obtain⟨av,n0,cv,rfl⟩:=h.1.slice;obtain⟨a9,n9,c9,rfl⟩:=h.2.slice;obtain rfl:n0=x.clients.length:=h.1.len.1;obtain⟨i0,hi0,hz0,hz1,hz2⟩:=info_parts Vir;have HJ:=hH hi0;have HZ0:=hH hz0;have HZ1:=hH hz1;have HZ2:=hH hz2;have hl5:x.clients.length≤5:=hr.few.2;clear h hi0 hz0 hz1 hz2 hr;go_enter Tryz.func110,Tryz.ntmps110;go_wp2_with (first|(go_at_call 97;go_must ((with_reducible refine(HRO.o _ Qac).mono ?_);rintro e w2 ⟨u2,rfl,ho2,hx2⟩;obtain⟨ua,un,uc,rfl⟩:=Qab ho2;have c0:=hx2.cl (w.heap.size) 0 (.slice av x.clients.length cv);obtain⟨z0,z1⟩:=cC2 hx2 (w.heap.size+1) (.slice none 0 0) (.slice none 0 0);have zf0:=fL hx2 (w.heap.size+1) 0;have zf1:=fL hx2 (w.heap.size+1) 1;have hz2:=hx2.size;(try simp at hz2);have hb2:=zL hx2 (w.heap.size+1);have hp2:=zL hx2 w.heap.size;have HX2:=xY w hx2;have HO2:=hH (Qbt gNo (Qcx (base':=w.heap.size+2) ltA ho2) (G:=fun j=>w.heap.size+2≤j∧j<w2.heap.size) (fun j hj hl _=>⟨Nat.le_trans ltA hj,hl⟩));have HU2:=hH (show∀k,(Value.slice ua un uc).ownBlock=some k→w.heap.size+2≤k∧k<w2.heap.size from fun k hk=>⟨Nat.le_trans ltA (Qak ho2 k hk).1,(Qak ho2 k hk).2⟩);clear ho2 hx2)))
 refine Qad (fun W2 eW2=> ?_);obtain⟨P0,P1⟩:=rR2 eW2 w2.heap.size (.slice none 0 0) (.slice ua un uc);obtain⟨Q0,Q1⟩:=rR2 eW2 (w.heap.size+1) (.slice none 0 0) (.slice none 0 0);have F0:W2.frozen? ⟨w2.heap.size,0,none⟩=false:=by rw[eW2];go_simp
 have F1:W2.frozen? ⟨w2.heap.size,1,none⟩=false:=by rw[eW2];go_simp
 have G0:W2.frozen? ⟨w.heap.size+1,0,none⟩=false:=by rw[eW2];go_simp
 have G1:W2.frozen? ⟨w.heap.size+1,1,none⟩=false:=by rw[eW2];go_simp
 have HX1:=hH (show Ext w W2 by rw[eW2];exact ext_trans HX2.o Qac);have HX12:=hH (xE w2 eW2);obtain⟨bo,hbo⟩:∃bo,w2.heap.size=bo:=⟨_,rfl⟩;rw[hbo] at P0 P1 F0 F1;rw[hbo];have hbv0:bo<W2.heap.size:=World.block_lt_of_cell? _ _ P0;have hwb:w.heap.size+1<bo:=oM;clear eW2 c0 z0 z1 zf0 zf1;go_loopw [13] (fun iv wr=>∃(k:Nat) (a:Option Addr) (c:Nat),k≤x.clients.length∧iv= .int .i64 k∧wr.cell? ⟨bo,0,none⟩=some (.slice a k c)∧wr.cell? ⟨bo,1,none⟩=some (.slice ua un uc)∧wr.cell? ⟨w.heap.size+1,0,none⟩=some (.slice none 0 0)∧wr.cell? ⟨w.heap.size+1,1,none⟩=some (.slice none 0 0)∧wr.frozen? ⟨bo,0,none⟩=false∧wr.frozen? ⟨bo,1,none⟩=false∧wr.frozen? ⟨w.heap.size+1,0,none⟩=false∧wr.frozen? ⟨w.heap.size+1,1,none⟩=false∧Hid (OSl RCl 8 73 (bo+1) (fun j=>bo<j) wr (.slice a k c) (x.clients.take k))∧Hid (Ext w2 wr)) (fun iv _=>x.clients.length-(intOf iv).toNat)
 case atStart=>exact⟨0,none,0,Nat.zero_le _,rfl,P0,P1,Q0,Q1,F0,F1,G0,G1,hH Qbn,HX12⟩
 case round=>
  clear P0 P1 Q0 Q1 F0 F1 G0 G1;obtain⟨k,a8,c8,hk,rfl,p0,p1,q0,q1,f0,f1,g0,g1,HO,HX⟩:=hrel;have hbr:bo<wr.heap.size:=World.block_lt_of_cell? _ _ p0;have hrr:w.heap.size+1<wr.heap.size:=World.block_lt_of_cell? _ _ q0;have HOL:=hH (Qak HO.o);have hgx:∀b,b<bo+1→¬some b=(Value.slice a8 k c8).ownBlock:=fun b hb e=>by have:=(HOL.o b e.symm).1;omega
  by_cases hlt:k<x.clients.length
  ·obtain⟨b,o,c,a1,n1,c1,a2,n2,c2,a3,n3,c3,a4,n4,c4,a5,n5,c5,ea,hbz,ek,ic,hd,y0,y1,y2,y3,y4,y5,y6,y7⟩:=Vec (HCL.o wr (ext_trans HX2.o HX.o)) hlt;subst ea;have hrd:=(HR.o.desk k c ek).1;have HIC:=hH ic;have HSU:=hH (Qmi ek);have hfl:(x.clients.take k).length≤10:=by rw[List.length_take];omega
   have hcl:(x.clients.take k).length=k:=by rw[List.length_take];omega
   generalize x.clients.take k=cls at *;go_upto_region 5 with fail
   refine Qad (fun V eV=> ?_);obtain⟨p0v,p1v⟩:=rR2 eV bo (.slice a8 k c8) (.slice ua un uc);obtain⟨q0v,q1v⟩:=rR2 eV (w.heap.size+1) (.slice none 0 0) (.slice none 0 0);have f0v:V.frozen? ⟨bo,0,none⟩=false:=by rw[eV];go_simp
   have f1v:V.frozen? ⟨bo,1,none⟩=false:=by rw[eV];go_simp
   have g0v:V.frozen? ⟨w.heap.size+1,0,none⟩=false:=by rw[eV];go_simp
   have g1v:V.frozen? ⟨w.heap.size+1,1,none⟩=false:=by rw[eV];go_simp
   obtain⟨d0,d1,d2,d3,d4,d5,d6,d7⟩:=rR8 eV wr.heap.size (.int .i64 c.desk.site) (.slice a1 n1 c1) (.slice a2 n2 c2) (.slice a3 n3 c3) (.slice a4 n4 c4) (.int .i64 c.desk.clock) (.slice a5 n5 c5) (.int .i64 c.cursor);have HXV:=hH (xE wr eV);have HOW:=hH (fun(W:World) (hx:Ext V W)=>(Qdr (gDk.ext hd (ext_trans HXV.o hx)) hrd.state (by rw[(checkI_iff.1 hrd.seen).1];omega) (Nat.le_trans hrd.lw oM) (Nat.le_trans hrd.lo oM) hrd.nw hrd.no).mono fun _ _ h=>Vkx h);have hbv:bo<V.heap.size:=Nat.lt_of_lt_of_le hbr HXV.o.size;have hrv:w.heap.size+1<V.heap.size:=Nat.lt_of_lt_of_le hrr HXV.o.size;have htv:wr.heap.size<V.heap.size:=World.block_lt_of_cell? _ _ d0;clear eV y0 y1 y2 y3 y4 y5 y6 y7 p0 p1 q0 q1 f0 f1 g0 g1 ek ic hd hrd;have HXW:=hH (ext_trans HX.o HXV.o);go_region_law (first
     |(go_simp;go_at_call 86;go_must ((with_reducible refine(HOW.o _ Qac).mono ?_);rintro e w3 ⟨xa1,xn1,xc1,xa2,xn2,xc2,xa3,xn3,xc3,xa4,xn4,xc4,xa5,xn5,xc5,rfl,hd3,hx3⟩;obtain⟨p03,p13⟩:=cC2 hx3 (bo) (.slice a8 k c8) (.slice ua un uc);obtain⟨q03,q13⟩:=cC2 hx3 (w.heap.size+1) (.slice none 0 0) (.slice none 0 0);have f03:=fL hx3 (bo) 0;have f13:=fL hx3 (bo) 1;have g03:=fL hx3 (w.heap.size+1) 0;have g13:=fL hx3 (w.heap.size+1) 1;have d73:=hx3.cl (wr.heap.size) 7 (.int .i64 c.cursor);have hz3:=hx3.size;(try simp at hz3);have hb3:=zL hx3 bo;have hr3:=zL hx3 (w.heap.size+1);have hs3:V.heap.size≤w3.heap.size:=oM;have HX3:=xY V hx3;have HD3:=hH hd3;clear hd3 hx3))
     |((refine Qa7 gCl rfl (.tmp 18) (.tmp 25) 22 rfl (bo+1) 73 i0 _ 8 144 Tryz.underlying22 HJ.o HZ0.o HZ1.o HZ2.o rfl oM (F:=fun j=>bo<j) (G:=fun j=>V.heap.size≤j) (.slice a8 k c8) cls rfl (Qai gCl HO.o (ext_trans HXV.o (ext_trans HX3.o Qac))) (.slice (some ⟨w3.heap.size,0,none⟩) 1 1) [c] rfl (Qlh rfl (Vhu asG asG asG asG asG asG asG asG) (Vlb (gDk.ext (gDk.more (fun j hj _=>(show V.heap.size≤j by first|omega|(simp at hj;omega))) HD3.o) Qac) HIC.o) ltA ltA (Nat.le_refl _) mO) Vkj (fun j hj _=>⟨Nat.lt_of_lt_of_le hbv hj,fun e=>by have h1:=(HOL.o j e.symm).2;have h2:wr.heap.size≤V.heap.size:=HXV.o.size;have hj':V.heap.size≤j:=hj;omega⟩) (Vkg hfl) (Vkf hfl) ltA ?_);intro v9 w9 hown9 hg9 hat9;obtain⟨a9,n9,c9,rfl⟩:=Qab hown9;obtain rfl:n9=k+1:=(Qa2 hown9).1.trans (by rw[List.length_append,hcl];rfl);have HO9:=hH hown9;have hsz9:V.heap.size≤w9.heap.size:=Nat.le_trans hs3 (Nat.le_trans ltA hg9.size);have p09:=(World.cell?_of_block (a:=⟨bo,0,none⟩) (hg9.block (bo) ltA (fun e=>hgx (bo) oM e))).trans (show _=some (.slice a8 k c8) by first|(with_reducible assumption)|go_simp);have f09:=(World.frozen?_of_block (a:=⟨bo,0,none⟩) (hg9.block (bo) ltA (fun e=>hgx (bo) oM e))).trans (show _=false by first|(with_reducible assumption)|go_simp);have p19:=(World.cell?_of_block (a:=⟨bo,1,none⟩) (hg9.block (bo) ltA (fun e=>hgx (bo) oM e))).trans (show _=some (.slice ua un uc) by first|(with_reducible assumption)|go_simp);have f19:=(World.frozen?_of_block (a:=⟨bo,1,none⟩) (hg9.block (bo) ltA (fun e=>hgx (bo) oM e))).trans (show _=false by first|(with_reducible assumption)|go_simp);have q09:=(World.cell?_of_block (a:=⟨w.heap.size+1,0,none⟩) (hg9.block (w.heap.size+1) ltA (fun e=>hgx (w.heap.size+1) oM e))).trans (show _=some (.slice none 0 0) by first|(with_reducible assumption)|go_simp);have g09:=(World.frozen?_of_block (a:=⟨w.heap.size+1,0,none⟩) (hg9.block (w.heap.size+1) ltA (fun e=>hgx (w.heap.size+1) oM e))).trans (show _=false by first|(with_reducible assumption)|go_simp);have q19:=(World.cell?_of_block (a:=⟨w.heap.size+1,1,none⟩) (hg9.block (w.heap.size+1) ltA (fun e=>hgx (w.heap.size+1) oM e))).trans (show _=some (.slice none 0 0) by first|(with_reducible assumption)|go_simp);have g19:=(World.frozen?_of_block (a:=⟨w.heap.size+1,1,none⟩) (hg9.block (w.heap.size+1) ltA (fun e=>hgx (w.heap.size+1) oM e))).trans (show _=false by first|(with_reducible assumption)|go_simp);have HX9:=hH (show Ext w2 w9 from Qao (ext_trans HXW.o (ext_trans HX3.o Qac)) hg9 (fun j hj=>by have:=(HOL.o j hj).1;omega))))
   all_goals (have hx9:=HX9.o;go_wp2_with fail)
   all_goals go_roundw
   all_goals (first
    |exact⟨k+1,a9,c9,hlt,by go_num,gS,gS,gS,gS,gS,gS,gS,gS,hH (by rw[HSU.o];exact Qa8 gCl HO9.o (Qae Qag (fun _ h=>h.elim (fun h=>Nat.lt_irrefl bo h) (fun h=>absurd (Qak HO9.o _ h.symm).1 (Nat.not_succ_le_self bo))) _)),hH Qac⟩
    |(simp[intOf];omega))
  ·obtain rfl:k=x.clients.length:=oM;have HF:=hH (show OSl RCl 8 73 (bo+1) (fun j=>bo<j) wr (.slice a8 x.clients.length c8) x.clients by have h:=HO.o;rw[List.take_of_length_le (Nat.le_refl _)] at h;exact h);have HL:=hH (Qai gNo HO2.o HX.o);have hxw:=ext_trans HX2.o HX.o;rw[hbo] at HL HU2;go_wp2_with fail
   refine bodyPost_ret (v:= .agg #[.slice a8 x.clients.length c8,.slice ua un uc]) (by simp[results,Tryz.results110,go_sem,p0,p1,q0,q1]) rfl (Vky hwb HF.o HL.o HU2.o (by repeat(first|(with_reducible exact Qag)|(with_reducible refine Qbh ?_)|(with_reducible refine Qae ?_ (fun _ h=>absurd rfl h.1) _))) Qac)
end Go.Proofs.YtgnccjojfebkeaaGreat
