/- A client's text edited in a world. -/
import Derived.Test.YtgnccjojfebkeaaGreatQecc479509e
import Derived.Test.YtgnccjojfebkeaaGreatQ3b8532dffc
import Derived.Test.YtgnccjojfebkeaaGreatQ9ccf8d356f
import Derived.Deep.RegionLaw
import Derived.Deep.Cut
import Derived.Test.YtgnccjojfebkeaaGreatQ8a2ad513a3
import Derived.Test.YtgnccjojfebkeaaGreatQ681ae46c05
set_option linter.unusedVariables false
set_option linter.unusedSimpArgs false
set_option maxRecDepth 100000
set_option maxHeartbeats 40000000
namespace Go.Proofs.YtgnccjojfebkeaaGreat
open Go Go.RowKit Go.BigFrame Cp
def Vh3 (x:Wd) (B b g cap:Nat) (w:World) (e:Ending) (w':World):Prop:=e= .returned (.tuple #[])∧IsStep x B b g cap w w'
theorem Vft {B b g cap:Nat} {x:Wd} {w:World} {u:Value} (h:WdAt B b x w g cap u) (hB:B≤w.heap.size) {V:World} (hV:w.heap.size≤V.heap.size) {k:Nat} (hk:V.heap.size+1≤k):(B≤k∧k≠b∧some k≠u.ownBlock)∧k≠g:=by
 have h1:=h.lt;have h2:=h.glt.2;exact⟨⟨oM,oM,fun e=>by have:=(Qak h.log k e.symm).2;omega⟩,oM⟩
theorem Vjn {h:Hap} {x:Wd} {i:Nat} {c:Cl} {er:Int} {dv:Dk} (he:Vfr h c.desk=er) (hv:Vff h c.desk=dv):(er=0→Vgl h x i c={x with clients:=x.clients.set i {c with desk:=dv}})∧(¬er=0→Vgl h x i c=x):=by
 subst he hv;unfold Vgl;exact⟨fun e=>if_pos e,fun e=>if_neg e⟩
theorem Vjp {h:Hap} {d:Dk} (k:h.kind=1):Vfr h d=Qjg d (Veh h d.state.1.length) h.text.data.toList∧Vff h d=Qj8 d (Veh h d.state.1.length) h.text.data.toList:=by unfold Vfr Vff;exact⟨if_pos k,if_pos k⟩
theorem Vie {h:Hap} {d:Dk} (k:h.kind=2):Vfr h d=Q5n d (Veh h d.state.1.length) (Vhr h d.state.1.length)∧Vff h d=Q5o d (Veh h d.state.1.length) (Vhr h d.state.1.length):=by
 have h1:¬h.kind=1:=oM;unfold Vfr Vff;rw[if_neg h1,if_neg h1];exact⟨if_pos k,if_pos k⟩
theorem Vhq {h:Hap} {d:Dk} (k:h.kind=5):Vfr h d=Vcf d h.text.data.toList∧Vff h d=Vap d h.text.data.toList:=by
 have h1:¬h.kind=1:=oM;have h2:¬h.kind=2:=oM;unfold Vfr Vff;rw[if_neg h1,if_neg h1,if_neg h2,if_neg h2];exact⟨rfl,rfl⟩
theorem Zbi {p:Prop} (h:p:=by
 refine Qad (fun U eU=> ?_);have HXU:=hH (show Ext V U by have hX3:=HX3.o;rw[eU];exact Qac);have HDU:=hH (show RDk (fun k=>V.heap.size+1≤k) U [.int .i64 dv.site,.slice xa1 xn1 xc1,.slice xa2 xn2 xc2,.slice xa3 xn3 xc3,.slice xa4 xn4 xc4,.int .i64 dv.clock,.slice xa5 xn5 xc5] dv by rw[eU];exact gDk.keep (by repeat(first|(with_reducible exact Qag)|(with_reducible refine Qbh ?_)|(with_reducible refine Qae ?_ (fun _ h=>by have h':V.heap.size+1≤V.heap.size:=h;omega) _))) HD3.o);obtain⟨r_0,r_1,r_2,r_3,r_4,r_5,r_6⟩:=rR7 eU V.heap.size (.int .i64 dv.site) (.slice xa1 xn1 xc1) (.slice xa2 xn2 xc2) (.slice xa3 xn3 xc3) (.slice xa4 xn4 xc4) (.int .i64 dv.clock) (.slice xa5 xn5 xc5);have s_0:=rL eU ⟨g,i * 8,none⟩ (.int .i64 c.desk.site);have s_1:=rL eU ⟨g,i * 8+1,none⟩ (.slice a1 n1 c1);have s_2:=rL eU ⟨g,i * 8+2,none⟩ (.slice a2 n2 c2);have s_3:=rL eU ⟨g,i * 8+3,none⟩ (.slice a3 n3 c3);have s_4:=rL eU ⟨g,i * 8+4,none⟩ (.slice a4 n4 c4);have s_5:=rL eU ⟨g,i * 8+5,none⟩ (.int .i64 c.desk.clock);have s_6:=rL eU ⟨g,i * 8+6,none⟩ (.slice a5 n5 c5);have o_0:U.frozen? ⟨g,i * 8,none⟩=false:=by rw[eU];go_simp
 have o_1:U.frozen? ⟨g,i * 8+1,none⟩=false:=by rw[eU];go_simp
 have o_2:U.frozen? ⟨g,i * 8+2,none⟩=false:=by rw[eU];go_simp
 have o_3:U.frozen? ⟨g,i * 8+3,none⟩=false:=by rw[eU];go_simp
 have o_4:U.frozen? ⟨g,i * 8+4,none⟩=false:=by rw[eU];go_simp
 have o_5:U.frozen? ⟨g,i * 8+5,none⟩=false:=by rw[eU];go_simp
 have o_6:U.frozen? ⟨g,i * 8+6,none⟩=false:=by rw[eU];go_simp
 have hgv:g<U.heap.size:=World.block_lt_of_cell? _ _ s_0;have hbv:V.heap.size<U.heap.size:=World.block_lt_of_cell? _ _ r_0;have HXW:=hH (ext_trans HXV.o HXU.o);clear eU z3_0 g3_0 y3_0 f3_0 v_0 w_0 z3_1 g3_1 y3_1 f3_1 v_1 w_1 z3_2 g3_2 y3_2 f3_2 v_2 w_2 z3_3 g3_3 y3_3 f3_3 v_3 w_3 z3_4 g3_4 y3_4 f3_4 v_4 w_4 z3_5 g3_5 y3_5 f3_5 v_5 w_5 z3_6 g3_6 y3_6 f3_6 v_6 w_6 HX3 HD3;go_wp2_with fail
 go_end0
 rw[HS.o.1 HE0.o];exact⟨rfl,⟨u,(H.out.ext HXW.o).desk_ HC.o HDU.o (fun k hk hl=>Vft H.out HBW.o HXV.o.size hk)⟩,fun A ha hA=>Ve2 (Nat.le_trans hA H.out.glt.1) [.int .i64 dv.site,.slice xa1 xn1 xc1,.slice xa2 xn2 xc2,.slice xa3 xn3 xc3,.slice xa4 xn4 xc4,.int .i64 dv.clock,.slice xa5 xn5 xc5] (i * 8+0) U (ext_trans ha HXW.o)⟩):p:=h
theorem Vjo {B b g cap i:Nat} {x:Wd} {c:Cl} {u:Value} {w:World} {h:Hap} (hw:WdAt B b x w g cap u) (hr:RightX x) (hc:x.clients[i]?=some c) (hB:B≤w.heap.size) (hk:h.kind=1∨h.kind=2∨h.kind=5) (ha:0≤h.at_∧h.at_≤300) (hm:0≤h.many∧h.many≤300) (ht:h.text.size≤300):
  Calls Tryz.prog 187 #[.pointer (some ⟨b,0,none⟩),.pointer (some ⟨g,i * 8,none⟩),.agg #[.int .i64 h.kind,.int .i64 h.who,.int .i64 h.at_,.int .i64 h.many,.string h.text,.bool h.lost]] w (Vh3 (Vgl h x i c) B b g cap w):=by
 obtain⟨a1,n1,c1,a2,n2,c2,a3,n3,c3,a4,n4,c4,a5,n5,c5,ic,hd,⟨y0,y1,y2,y3,y4,y5,y6,_⟩,hfz⟩:=hw.at_ hc;have H:=hH hw;have HC:=hH hc;have HBW:=hH hB;have hbz:=hw.lt;have hgz:=hw.glt.2;have hrd:=(hr.desk i c hc).1;have hn1:n1=c.desk.state.1.length:=(Vea hd).1.len.1;have hn3:n1≤300:=by rw[hn1];exact hrd.state.2.1
 have hf_all:∀k,w.frozen? ⟨g,k,none⟩=false:=hfz;have f0:=hf_all (i * 8);have f1:=hf_all (i * 8+1);have f2:=hf_all (i * 8+2);have f3:=hf_all (i * 8+3);have f4:=hf_all (i * 8+4);have f5:=hf_all (i * 8+5);have f6:=hf_all (i * 8+6);obtain⟨q,hq⟩:∃q:Nat,h.at_=(q:Int):=⟨h.at_.toNat,oM⟩;obtain⟨j,hj⟩:∃j:Nat,h.many=(j:Int):=⟨h.many.toNat,oM⟩;obtain⟨p,hp⟩:∃p:Nat,Veh h n1=(p:Int):=⟨(Veh h n1).toNat,by unfold Veh;split<;>omega⟩;have hpn:p≤n1:=by unfold Veh at hp;split at hp<;>omega
 obtain⟨er,her⟩:∃e:Int,Vfr h c.desk=e:=⟨_,rfl⟩;obtain⟨dv,hdv⟩:∃e:Dk,Vff h c.desk=e:=⟨_,rfl⟩;have HS:=hH (Vjn (x:=x) (i:=i) her hdv);have HDE:=hH (fun(W:World) (hx:Ext w W)=>gDk.ext hd hx);have hq3:q≤300:=oM;have hj3:j≤300:=oM;have HQ:=hH hq;have HJ:=hH hj;have HP:=hH hp;have HN:=hH hn1;have HH:=hH (And.intro her hdv);have HTS:=hH ht;clear hw hr hc hB hd hfz hf_all hrd ic ha hm hn1 her hdv ht hp;go_enter Tryz.func187,Tryz.ntmps187;go_upto_region 2 with fail
 refine Qad (fun V eV=> ?_);have HXV:=hH (xE w eV);have k_0:=rL eV ⟨w.heap.size,0,none⟩ (.int .i64 h.kind);have k_2:=rL eV ⟨w.heap.size,2,none⟩ (.int .i64 h.at_);have k_3:=rL eV ⟨w.heap.size,3,none⟩ (.int .i64 h.many);have k_4:=rL eV ⟨w.heap.size,4,none⟩ (.string h.text);have v_0:=rL eV ⟨g,i * 8,none⟩ (.int .i64 c.desk.site);have w_0:V.frozen? ⟨g,i * 8,none⟩=false:=by rw[eV];go_simp
 have v_1:=rL eV ⟨g,i * 8+1,none⟩ (.slice a1 n1 c1);have w_1:V.frozen? ⟨g,i * 8+1,none⟩=false:=by rw[eV];go_simp
 have v_2:=rL eV ⟨g,i * 8+2,none⟩ (.slice a2 n2 c2);have w_2:V.frozen? ⟨g,i * 8+2,none⟩=false:=by rw[eV];go_simp
 have v_3:=rL eV ⟨g,i * 8+3,none⟩ (.slice a3 n3 c3);have w_3:V.frozen? ⟨g,i * 8+3,none⟩=false:=by rw[eV];go_simp
 have v_4:=rL eV ⟨g,i * 8+4,none⟩ (.slice a4 n4 c4);have w_4:V.frozen? ⟨g,i * 8+4,none⟩=false:=by rw[eV];go_simp
 have v_5:=rL eV ⟨g,i * 8+5,none⟩ (.int .i64 c.desk.clock);have w_5:V.frozen? ⟨g,i * 8+5,none⟩=false:=by rw[eV];go_simp
 have v_6:=rL eV ⟨g,i * 8+6,none⟩ (.slice a5 n5 c5);have w_6:V.frozen? ⟨g,i * 8+6,none⟩=false:=by rw[eV];go_simp
 have hgV:g<V.heap.size:=World.block_lt_of_cell? _ _ v_0;have hbV:w.heap.size<V.heap.size:=World.block_lt_of_cell? _ _ k_0;clear eV y0 y1 y2 y3 y4 y5 y6 f0 f1 f2 f3 f4 f5 f6;go_cut [7] from 17 to 20 (fun s7 wx=>s7= .int .i64 (p:Nat)∧wx=V)
 case first=>
  have HMN:=hH (show min h.at_ (n1:Int)=(p:Int) from by have h1:=HP.o;unfold Veh at h1;split at h1<;>omega);clear hq hj;go_wp2_with fail
  go_meet
  exact⟨congrArg (Value.int .i64) HMN.o,rfl⟩
 case rest=>
  obtain⟨rfl,hWV⟩:=hcut;have hWV:=hWV.symm;subst hWV;by_cases hk1:h.kind=1
  ·have k1:(h.kind==1)=true:=by simp[hk1]
   have HTX:=hH (fun(W:World) (hx:Ext V W)=>(Qth (HDE.o W (ext_trans HXV.o hx)) (Qal (show -100000≤(p:Int) by omega) (show(p:Int)≤100000 by omega)) (Nat.le_trans HTS.o oM)).mono fun _ _ h=>Vhf h);obtain⟨g1,g2⟩:=Vjp (h:=h) (d:=c.desk) hk1;rw[←HN.o,HP.o] at g1 g2;rw[←g1,←g2,HH.o.1,HH.o.2] at HTX;clear g1 g2 hk hk1 HJ hj hq;by_cases h0:er=0
   ·have t9:(er==0)=true:=by simp[h0]
    have HE0:=hH h0;clear h0;go_upto_region 7 with fail
    go_region_law (first|(go_simp;go_at_call 35;go_must ((with_reducible refine(HTX.o _ Qac).mono ?_);rintro e w3 ⟨xa1,xn1,xc1,xa2,xn2,xc2,xa3,xn3,xc3,xa4,xn4,xc4,xa5,xn5,xc5,rfl,hd3,hx3⟩;obtain⟨z3_0,z3_1,z3_2,z3_3,z3_4,z3_5,z3_6⟩:=cC7 hx3 (V.heap.size) (.int .i64 0) (.slice none 0 0) (.slice none 0 0) (.slice none 0 0) (.slice none 0 0) (.int .i64 0) (.slice none 0 0);have g3_0:=fL hx3 (V.heap.size) 0;have g3_1:=fL hx3 (V.heap.size) 1;have g3_2:=fL hx3 (V.heap.size) 2;have g3_3:=fL hx3 (V.heap.size) 3;have g3_4:=fL hx3 (V.heap.size) 4;have g3_5:=fL hx3 (V.heap.size) 5;have g3_6:=fL hx3 (V.heap.size) 6;have y3_0:=hx3.cl g (i * 8) (.int .i64 c.desk.site);have y3_1:=hx3.cl g (i * 8+1) (.slice a1 n1 c1);have y3_2:=hx3.cl g (i * 8+2) (.slice a2 n2 c2);have y3_3:=hx3.cl g (i * 8+3) (.slice a3 n3 c3);have y3_4:=hx3.cl g (i * 8+4) (.slice a4 n4 c4);have y3_5:=hx3.cl g (i * 8+5) (.int .i64 c.desk.clock);have y3_6:=hx3.cl g (i * 8+6) (.slice a5 n5 c5);have f3_0:=fL hx3 g (i * 8);have f3_1:=fL hx3 g (i * 8+1);have f3_2:=fL hx3 g (i * 8+2);have f3_3:=fL hx3 g (i * 8+3);have f3_4:=fL hx3 g (i * 8+4);have f3_5:=fL hx3 g (i * 8+5);have f3_6:=fL hx3 g (i * 8+6);have hg3:g<w3.heap.size:=Nat.lt_of_lt_of_le hgV (show Ext V w3 from ext_trans Qac hx3).size;have hz3:=hx3.size;(try simp at hz3);have hb3:=zL hx3 V.heap.size;have HX3:=xY V hx3;have HD3:=hH (gDk.more (G:=fun k=>V.heap.size+1≤k) (fun k hk _=>Nat.le_trans ltA hk) hd3);clear hd3 hx3)))
    all_goals (go_upto_region 13 with fail)
    all_goals
     exact Zbi
   ·have t9:(er==0)=false:=by simpa using h0
    have HE0:=hH h0;clear h0;go_upto_region 7 with fail
    go_region_law (first|(go_simp;go_at_call 35;go_must ((with_reducible refine(HTX.o _ Qac).mono ?_);rintro e w3 ⟨xa1,xn1,xc1,xa2,xn2,xc2,xa3,xn3,xc3,xa4,xn4,xc4,xa5,xn5,xc5,rfl,hd3,hx3⟩;obtain⟨z3_0,z3_1,z3_2,z3_3,z3_4,z3_5,z3_6⟩:=cC7 hx3 (V.heap.size) (.int .i64 0) (.slice none 0 0) (.slice none 0 0) (.slice none 0 0) (.slice none 0 0) (.int .i64 0) (.slice none 0 0);have g3_0:=fL hx3 (V.heap.size) 0;have g3_1:=fL hx3 (V.heap.size) 1;have g3_2:=fL hx3 (V.heap.size) 2;have g3_3:=fL hx3 (V.heap.size) 3;have g3_4:=fL hx3 (V.heap.size) 4;have g3_5:=fL hx3 (V.heap.size) 5;have g3_6:=fL hx3 (V.heap.size) 6;have y3_0:=hx3.cl g (i * 8) (.int .i64 c.desk.site);have y3_1:=hx3.cl g (i * 8+1) (.slice a1 n1 c1);have y3_2:=hx3.cl g (i * 8+2) (.slice a2 n2 c2);have y3_3:=hx3.cl g (i * 8+3) (.slice a3 n3 c3);have y3_4:=hx3.cl g (i * 8+4) (.slice a4 n4 c4);have y3_5:=hx3.cl g (i * 8+5) (.int .i64 c.desk.clock);have y3_6:=hx3.cl g (i * 8+6) (.slice a5 n5 c5);have f3_0:=fL hx3 g (i * 8);have f3_1:=fL hx3 g (i * 8+1);have f3_2:=fL hx3 g (i * 8+2);have f3_3:=fL hx3 g (i * 8+3);have f3_4:=fL hx3 g (i * 8+4);have f3_5:=fL hx3 g (i * 8+5);have f3_6:=fL hx3 g (i * 8+6);have hg3:g<w3.heap.size:=Nat.lt_of_lt_of_le hgV (show Ext V w3 from ext_trans Qac hx3).size;have hz3:=hx3.size;(try simp at hz3);have hb3:=zL hx3 V.heap.size;have HX3:=xY V hx3;have HD3:=hH (gDk.more (G:=fun k=>V.heap.size+1≤k) (fun k hk _=>Nat.le_trans ltA hk) hd3);clear hd3 hx3)))
    all_goals go_wp2_with fail
    all_goals go_end0
    all_goals rw[HS.o.2 HE0.o]
    all_goals (have hX3:=HX3.o;exact⟨rfl,⟨u,H.out.ext (ext_trans HXV.o Qac)⟩,fun A ha _=>ext_trans ha (ext_trans HXV.o Qac)⟩)
  have k1:(h.kind==1)=false:=by simpa using hk1
  by_cases hk2:h.kind=2
  ·have k2:(h.kind==2)=true:=by simp[hk2]
   obtain⟨g1,g2⟩:=Vie (h:=h) (d:=c.desk) hk2;rw[←HN.o,HP.o] at g1 g2;have ew:IntKind.i64.wrap ((n1:Int)-(p:Int))=(n1:Int)-(p:Int):=by rw[IntWalk.i64_in _ oM]
   have em:Vhr h n1=min h.many (IntKind.i64.wrap ((n1:Int)-(p:Int))):=by rw[ew];unfold Vhr;rw[HP.o];split<;>omega
   have ei:I64 (min h.many (IntKind.i64.wrap ((n1:Int)-(p:Int)))):=by rw[ew];exact Qal (show -100000≤min h.many ((n1:Int)-(p:Int)) by omega) (show min h.many ((n1:Int)-(p:Int))≤100000 by omega)
   rw[em] at g1 g2;have HCX:=hH (fun(W:World) (hx:Ext V W)=>(Q1w (HDE.o W (ext_trans HXV.o hx)) (Qal (show -100000≤(p:Int) by omega) (show(p:Int)≤100000 by omega)) ei).mono fun _ _ h=>Vhf h);rw[←g1,←g2,HH.o.1,HH.o.2] at HCX;clear g1 g2 em ew ei hk hk1 hk2 HJ hj hq;by_cases h0:er=0
   ·have t9:(er==0)=true:=by simp[h0]
    have HE0:=hH h0;clear h0;go_upto_region 9 with fail
    go_region_law (first|(go_simp;go_at_call 36;go_must ((with_reducible refine(HCX.o _ Qac).mono ?_);rintro e w3 ⟨xa1,xn1,xc1,xa2,xn2,xc2,xa3,xn3,xc3,xa4,xn4,xc4,xa5,xn5,xc5,rfl,hd3,hx3⟩;obtain⟨z3_0,z3_1,z3_2,z3_3,z3_4,z3_5,z3_6⟩:=cC7 hx3 (V.heap.size) (.int .i64 0) (.slice none 0 0) (.slice none 0 0) (.slice none 0 0) (.slice none 0 0) (.int .i64 0) (.slice none 0 0);have g3_0:=fL hx3 (V.heap.size) 0;have g3_1:=fL hx3 (V.heap.size) 1;have g3_2:=fL hx3 (V.heap.size) 2;have g3_3:=fL hx3 (V.heap.size) 3;have g3_4:=fL hx3 (V.heap.size) 4;have g3_5:=fL hx3 (V.heap.size) 5;have g3_6:=fL hx3 (V.heap.size) 6;have y3_0:=hx3.cl g (i * 8) (.int .i64 c.desk.site);have y3_1:=hx3.cl g (i * 8+1) (.slice a1 n1 c1);have y3_2:=hx3.cl g (i * 8+2) (.slice a2 n2 c2);have y3_3:=hx3.cl g (i * 8+3) (.slice a3 n3 c3);have y3_4:=hx3.cl g (i * 8+4) (.slice a4 n4 c4);have y3_5:=hx3.cl g (i * 8+5) (.int .i64 c.desk.clock);have y3_6:=hx3.cl g (i * 8+6) (.slice a5 n5 c5);have f3_0:=fL hx3 g (i * 8);have f3_1:=fL hx3 g (i * 8+1);have f3_2:=fL hx3 g (i * 8+2);have f3_3:=fL hx3 g (i * 8+3);have f3_4:=fL hx3 g (i * 8+4);have f3_5:=fL hx3 g (i * 8+5);have f3_6:=fL hx3 g (i * 8+6);have hg3:g<w3.heap.size:=Nat.lt_of_lt_of_le hgV (show Ext V w3 from ext_trans Qac hx3).size;have hz3:=hx3.size;(try simp at hz3);have hb3:=zL hx3 V.heap.size;have HX3:=xY V hx3;have HD3:=hH (gDk.more (G:=fun k=>V.heap.size+1≤k) (fun k hk _=>Nat.le_trans ltA hk) hd3);clear hd3 hx3)))
    all_goals (go_upto_region 13 with fail)
    all_goals
     exact Zbi
   ·have t9:(er==0)=false:=by simpa using h0
    have HE0:=hH h0;clear h0;go_upto_region 9 with fail
    go_region_law (first|(go_simp;go_at_call 36;go_must ((with_reducible refine(HCX.o _ Qac).mono ?_);rintro e w3 ⟨xa1,xn1,xc1,xa2,xn2,xc2,xa3,xn3,xc3,xa4,xn4,xc4,xa5,xn5,xc5,rfl,hd3,hx3⟩;obtain⟨z3_0,z3_1,z3_2,z3_3,z3_4,z3_5,z3_6⟩:=cC7 hx3 (V.heap.size) (.int .i64 0) (.slice none 0 0) (.slice none 0 0) (.slice none 0 0) (.slice none 0 0) (.int .i64 0) (.slice none 0 0);have g3_0:=fL hx3 (V.heap.size) 0;have g3_1:=fL hx3 (V.heap.size) 1;have g3_2:=fL hx3 (V.heap.size) 2;have g3_3:=fL hx3 (V.heap.size) 3;have g3_4:=fL hx3 (V.heap.size) 4;have g3_5:=fL hx3 (V.heap.size) 5;have g3_6:=fL hx3 (V.heap.size) 6;have y3_0:=hx3.cl g (i * 8) (.int .i64 c.desk.site);have y3_1:=hx3.cl g (i * 8+1) (.slice a1 n1 c1);have y3_2:=hx3.cl g (i * 8+2) (.slice a2 n2 c2);have y3_3:=hx3.cl g (i * 8+3) (.slice a3 n3 c3);have y3_4:=hx3.cl g (i * 8+4) (.slice a4 n4 c4);have y3_5:=hx3.cl g (i * 8+5) (.int .i64 c.desk.clock);have y3_6:=hx3.cl g (i * 8+6) (.slice a5 n5 c5);have f3_0:=fL hx3 g (i * 8);have f3_1:=fL hx3 g (i * 8+1);have f3_2:=fL hx3 g (i * 8+2);have f3_3:=fL hx3 g (i * 8+3);have f3_4:=fL hx3 g (i * 8+4);have f3_5:=fL hx3 g (i * 8+5);have f3_6:=fL hx3 g (i * 8+6);have hg3:g<w3.heap.size:=Nat.lt_of_lt_of_le hgV (show Ext V w3 from ext_trans Qac hx3).size;have hz3:=hx3.size;(try simp at hz3);have hb3:=zL hx3 V.heap.size;have HX3:=xY V hx3;have HD3:=hH (gDk.more (G:=fun k=>V.heap.size+1≤k) (fun k hk _=>Nat.le_trans ltA hk) hd3);clear hd3 hx3)))
    all_goals go_wp2_with fail
    all_goals go_end0
    all_goals rw[HS.o.2 HE0.o]
    all_goals (have hX3:=HX3.o;exact⟨rfl,⟨u,H.out.ext (ext_trans HXV.o Qac)⟩,fun A ha _=>ext_trans ha (ext_trans HXV.o Qac)⟩)
  have k2:(h.kind==2)=false:=by simpa using hk2
  have hk5:h.kind=5:=oM;have k5:(h.kind==5)=true:=by simp[hk5]
  have HWX:=hH (fun(W:World) (hx:Ext V W)=>(Q1x (HDE.o W (ext_trans HXV.o hx)) (Nat.le_trans HTS.o oM)).mono fun _ _ h=>Vhf h);obtain⟨g1,g2⟩:=Vhq (h:=h) (d:=c.desk) hk5;rw[←g1,←g2,HH.o.1,HH.o.2] at HWX;clear g1 g2 hk hk1 hk2 hk5 HJ hj hq;by_cases h0:er=0
  ·have t9:(er==0)=true:=by simp[h0]
   have HE0:=hH h0;clear h0;go_upto_region 11 with fail
   go_region_law (first|(go_simp;go_at_call 37;go_must ((with_reducible refine(HWX.o _ Qac).mono ?_);rintro e w3 ⟨xa1,xn1,xc1,xa2,xn2,xc2,xa3,xn3,xc3,xa4,xn4,xc4,xa5,xn5,xc5,rfl,hd3,hx3⟩;obtain⟨z3_0,z3_1,z3_2,z3_3,z3_4,z3_5,z3_6⟩:=cC7 hx3 (V.heap.size) (.int .i64 0) (.slice none 0 0) (.slice none 0 0) (.slice none 0 0) (.slice none 0 0) (.int .i64 0) (.slice none 0 0);have g3_0:=fL hx3 (V.heap.size) 0;have g3_1:=fL hx3 (V.heap.size) 1;have g3_2:=fL hx3 (V.heap.size) 2;have g3_3:=fL hx3 (V.heap.size) 3;have g3_4:=fL hx3 (V.heap.size) 4;have g3_5:=fL hx3 (V.heap.size) 5;have g3_6:=fL hx3 (V.heap.size) 6;have y3_0:=hx3.cl g (i * 8) (.int .i64 c.desk.site);have y3_1:=hx3.cl g (i * 8+1) (.slice a1 n1 c1);have y3_2:=hx3.cl g (i * 8+2) (.slice a2 n2 c2);have y3_3:=hx3.cl g (i * 8+3) (.slice a3 n3 c3);have y3_4:=hx3.cl g (i * 8+4) (.slice a4 n4 c4);have y3_5:=hx3.cl g (i * 8+5) (.int .i64 c.desk.clock);have y3_6:=hx3.cl g (i * 8+6) (.slice a5 n5 c5);have f3_0:=fL hx3 g (i * 8);have f3_1:=fL hx3 g (i * 8+1);have f3_2:=fL hx3 g (i * 8+2);have f3_3:=fL hx3 g (i * 8+3);have f3_4:=fL hx3 g (i * 8+4);have f3_5:=fL hx3 g (i * 8+5);have f3_6:=fL hx3 g (i * 8+6);have hg3:g<w3.heap.size:=Nat.lt_of_lt_of_le hgV (show Ext V w3 from ext_trans Qac hx3).size;have hz3:=hx3.size;(try simp at hz3);have hb3:=zL hx3 V.heap.size;have HX3:=xY V hx3;have HD3:=hH (gDk.more (G:=fun k=>V.heap.size+1≤k) (fun k hk _=>Nat.le_trans ltA hk) hd3);clear hd3 hx3)))
   all_goals (go_upto_region 13 with fail)
   all_goals
    exact Zbi
  ·have t9:(er==0)=false:=by simpa using h0
   have HE0:=hH h0;clear h0;go_upto_region 11 with fail
   go_region_law (first|(go_simp;go_at_call 37;go_must ((with_reducible refine(HWX.o _ Qac).mono ?_);rintro e w3 ⟨xa1,xn1,xc1,xa2,xn2,xc2,xa3,xn3,xc3,xa4,xn4,xc4,xa5,xn5,xc5,rfl,hd3,hx3⟩;obtain⟨z3_0,z3_1,z3_2,z3_3,z3_4,z3_5,z3_6⟩:=cC7 hx3 (V.heap.size) (.int .i64 0) (.slice none 0 0) (.slice none 0 0) (.slice none 0 0) (.slice none 0 0) (.int .i64 0) (.slice none 0 0);have g3_0:=fL hx3 (V.heap.size) 0;have g3_1:=fL hx3 (V.heap.size) 1;have g3_2:=fL hx3 (V.heap.size) 2;have g3_3:=fL hx3 (V.heap.size) 3;have g3_4:=fL hx3 (V.heap.size) 4;have g3_5:=fL hx3 (V.heap.size) 5;have g3_6:=fL hx3 (V.heap.size) 6;have y3_0:=hx3.cl g (i * 8) (.int .i64 c.desk.site);have y3_1:=hx3.cl g (i * 8+1) (.slice a1 n1 c1);have y3_2:=hx3.cl g (i * 8+2) (.slice a2 n2 c2);have y3_3:=hx3.cl g (i * 8+3) (.slice a3 n3 c3);have y3_4:=hx3.cl g (i * 8+4) (.slice a4 n4 c4);have y3_5:=hx3.cl g (i * 8+5) (.int .i64 c.desk.clock);have y3_6:=hx3.cl g (i * 8+6) (.slice a5 n5 c5);have f3_0:=fL hx3 g (i * 8);have f3_1:=fL hx3 g (i * 8+1);have f3_2:=fL hx3 g (i * 8+2);have f3_3:=fL hx3 g (i * 8+3);have f3_4:=fL hx3 g (i * 8+4);have f3_5:=fL hx3 g (i * 8+5);have f3_6:=fL hx3 g (i * 8+6);have hg3:g<w3.heap.size:=Nat.lt_of_lt_of_le hgV (show Ext V w3 from ext_trans Qac hx3).size;have hz3:=hx3.size;(try simp at hz3);have hb3:=zL hx3 V.heap.size;have HX3:=xY V hx3;have HD3:=hH (gDk.more (G:=fun k=>V.heap.size+1≤k) (fun k hk _=>Nat.le_trans ltA hk) hd3);clear hd3 hx3)))
   all_goals go_wp2_with fail
   all_goals go_end0
   all_goals rw[HS.o.2 HE0.o]
   all_goals (have hX3:=HX3.o;exact⟨rfl,⟨u,H.out.ext (ext_trans HXV.o Qac)⟩,fun A ha _=>ext_trans ha (ext_trans HXV.o Qac)⟩)
theorem IsStep.pre {x:Wd} {B b g cap:Nat} {w V w':World} (h:IsStep x B b g cap V w') (hx:Ext w V):IsStep x B b g cap w w':=⟨h.1,fun A ha hA=>h.2 A (ext_trans ha hx) hA⟩
theorem Vjm {h:Hap} {x:Wd} {i:Nat} {c:Cl} (k:h.kind=3):doC h x i c=Veb h.lost x i c:=by unfold doC;exact if_pos k
theorem Vhg {h:Hap} {x:Wd} {i:Nat} {c:Cl} (k:h.kind=4) (l:h.lost=true):doC h x i c=x:=by unfold doC;rw[if_neg oM,if_pos k,if_pos l]
theorem Vjl {h:Hap} {x:Wd} {i:Nat} {c:Cl} (k:h.kind=4) (l:h.lost=false):doC h x i c=Vec h.many x i c:=by unfold doC;rw[if_neg oM,if_pos k,if_neg (by simp[l])]
theorem Vjk {h:Hap} {x:Wd} {i:Nat} {c:Cl} (k:¬h.kind=3) (l:¬h.kind=4):doC h x i c=Vgl h x i c:=by unfold doC;rw[if_neg k,if_neg l]
theorem Vic {B b g cap:Nat} {x:Wd} {u:Value} {w:World} {h:Hap} (hw:WdAt B b x w g cap u) (hr:RightX x) (he:Ve1 x.clients.length h=0) (hB:B≤w.heap.size):
  Calls Tryz.prog 137 #[.pointer (some ⟨b,0,none⟩),.agg #[.int .i64 h.kind,.int .i64 h.who,.int .i64 h.at_,.int .i64 h.many,.string h.text,.bool h.lost]] w (Vh3 (doW x h) B b g cap w):=by
 obtain⟨c,hc⟩:=Vhn he;obtain⟨⟨hk1,hk5⟩,⟨hw0,hw1⟩,_,hat,hmany,htext⟩:=Vg0 he;rw[Vfq hc];obtain⟨i,hi⟩:∃i:Nat,h.who=(i:Int):=⟨h.who.toNat,oM⟩;rw[show h.who.toNat=i by omega] at hc ⊢;have hil:i<x.clients.length:=oM;have H:=hH hw;have HSN:=hH (fun(W:World) (hx:Ext w W) (l:Bool)=>Vhm (lost:=l) (hw.ext hx) hr hc (Nat.le_trans hB hx.size));have HPL:=hH (fun(W:World) (hx:Ext w W)=>Vgr (m:=h.many) (hw.ext hx) hr hc (Nat.le_trans hB hx.size) hmany);have HED:=hH (fun(k:h.kind=1∨h.kind=2∨h.kind=5) (W:World) (hx:Ext w W)=>Vjo (h:=h) (hw.ext hx) hr hc (Nat.le_trans hB hx.size) k hat hmany htext);have e0:=hw.c0;have hbz:=hw.lt;clear hw hr he hat hmany htext hc;go_enter Tryz.func137,Tryz.ntmps137;go_upto_region 1 with fail
 refine Qad (fun V eV=> ?_);have HXV:=hH (xE w eV);obtain⟨k_0,k_1,k_2,k_3,k_4,k_5⟩:=rR6 eV w.heap.size (.int .i64 h.kind) (.int .i64 h.who) (.int .i64 h.at_) (.int .i64 h.many) (.string h.text) (.bool h.lost);have c0:=rL eV ⟨b,0,none⟩ (.slice (some ⟨g,0,none⟩) x.clients.length cap);have hV:w.heap.size<V.heap.size:=World.block_lt_of_cell? _ _ k_0;have hbV:b<V.heap.size:=World.block_lt_of_cell? _ _ c0;have HI:=hH hi;clear eV e0 hi hw0 hw1;go_cut [4] from 5 to 12 (fun s wx=>s= .pointer (some ⟨g,i * 8,none⟩)∧Hid (Ext V wx))
 case first=>
  rw[HI.o] at k_1;go_quiet (fail)
  go_wp2_with fail
  go_meet
  exact⟨sI,hH Qac⟩
 case rest=>
  obtain⟨rfl,HXC⟩:=hcut;obtain⟨j_0,j_1,j_2,j_3,j_4,j_5⟩:=tT6 HXC.o hV k_0 k_1 k_2 k_3 k_4 k_5;have hC:w.heap.size<wc.heap.size:=Nat.lt_of_lt_of_le hV HXC.o.size;have HXW:=hH (ext_trans HXV.o HXC.o);clear HXV k_0 k_1 k_2 k_3 k_4 k_5;have HXV:=HXW;clear HXW HXC c0 hV hbV;by_cases hk3:h.kind=3
  ·have t1:(h.kind==3)=true:=by simp[hk3]
   have HE:=hH (Vjm (x:=x) (i:=i) (c:=c) hk3);have HSS:=hH (fun(W:World) (hx:Ext w W)=>HSN.o W hx h.lost);clear hk3 hk1 hk5 HSN;go_wp2_with (first|(go_at_call 111;go_must ((with_reducible refine(HSS.o _ (ext_trans HXV.o Qac)).mono ?_);rintro e w3 ⟨rfl,hst⟩;have HS3:=hH hst;clear hst)))
   go_end0
   rw[HE.o];exact⟨rfl,HS3.o.pre (ext_trans HXV.o Qac)⟩
  have t1:(h.kind==3)=false:=by simpa using hk3
  by_cases hk4:h.kind=4
  ·have t2:(h.kind==4)=true:=by simp[hk4]
   cases hl:h.lost with
   |true=>
    have HE:=hH (Vhg (x:=x) (i:=i) (c:=c) hk4 hl);rw[hl] at j_5;clear hk3 hk4 hk1 hk5 hl;go_wp2_with fail
    go_end0
    rw[HE.o];exact⟨rfl,⟨u,H.out.ext (ext_trans HXV.o Qac)⟩,fun A ha _=>ext_trans ha (ext_trans HXV.o Qac)⟩
   |false=>
    have HE:=hH (Vjl (x:=x) (i:=i) (c:=c) hk4 hl);rw[hl] at j_5;clear hk3 hk4 hk1 hk5 hl;go_wp2_with (first|(go_at_call 112;go_must ((with_reducible refine(HPL.o _ (ext_trans HXV.o Qac)).mono ?_);rintro e w3 ⟨rfl,hst⟩;have HS3:=hH hst;clear hst)))
    go_end0
    rw[HE.o];exact⟨rfl,HS3.o.pre (ext_trans HXV.o Qac)⟩
  have t2:(h.kind==4)=false:=by simpa using hk4
  have HE:=hH (Vjk (x:=x) (i:=i) (c:=c) hk3 hk4);have HEE:=hH (HED.o oM);clear hk3 hk4 hk1 hk5 HED;go_wp2_with (first|(go_at_call 187;go_must ((with_reducible refine(HEE.o _ (ext_trans HXV.o Qac)).mono ?_);rintro e w3 ⟨rfl,hst⟩;have HS3:=hH hst;clear hst)))
  go_end0
  rw[HE.o];exact⟨rfl,HS3.o.pre (ext_trans HXV.o Qac)⟩
end Go.Proofs.YtgnccjojfebkeaaGreat
