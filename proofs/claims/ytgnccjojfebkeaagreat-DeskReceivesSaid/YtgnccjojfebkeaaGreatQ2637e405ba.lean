/- DeskReceives, walked. -/
import Derived.Test.YtgnccjojfebkeaaGreatQb348c54b30
import Derived.Test.YtgnccjojfebkeaaGreatQe7ae9feb46
import Derived.Test.YtgnccjojfebkeaaGreatQ67e18446e6
import Derived.Test.YtgnccjojfebkeaaGreatQ3b8532dffc
import Derived.Test.YtgnccjojfebkeaaGreatQeaca64021a
import Derived.BigRegion
import Derived.Deep.RegionHeld3
import Derived.Test.YtgnccjojfebkeaaGreatQfc0f38224b
import Derived.Test.YtgnccjojfebkeaaGreatQ5cad11762b
import Derived.Test.YtgnccjojfebkeaaGreatQ3bfcaba1a6
set_option linter.unusedVariables false
set_option linter.unusedSimpArgs false
set_option maxRecDepth 100000
set_option maxHeartbeats 40000000
namespace Go.Proofs.YtgnccjojfebkeaaGreat
open Go Go.RowKit Go.BigFrame Cp
theorem Ve5 {F:Nat→Prop} {w:World} {b c:Nat} {xs:List Int} (h:∀i x,xs[i]?=some x→w.cell? ⟨b,i,none⟩=some (.int .i64 x)∧I64 x) (hF:F b) (hb:b<w.heap.size) (h1:xs.length≤c) (h2:c≤maxLen):RSl Qe1 1 F w (.slice (some ⟨b,0,none⟩) xs.length c) xs:=
 ⟨_,c,rfl,h1,h2,fun _=>⟨b,0,rfl,hF,hb,fun i x hi=>⟨[.int .i64 x],rfl,by simpa using Qez (h i x hi).1,rfl,(h i x hi).2⟩⟩⟩
theorem DkAt.othS {F:Nat→Prop} {b c:Nat} {d:Dk} {w:World} {va vg vs vw vo:Value} (h:DkAt F b d w va vg vs vw vo) (hb:c≠b) (hF:¬F c) (u0 u1 u2 u3 u4 u5 u6:Value):DkAt F b d (((((((w.setCell ⟨c,0,none⟩ u0).setCell ⟨c,1,none⟩ u1).setCell ⟨c,2,none⟩ u2).setCell ⟨c,3,none⟩ u3).setCell ⟨c,4,none⟩ u4).setCell ⟨c,5,none⟩ u5).setCell ⟨c,6,none⟩ u6) va vg vs vw vo:=
 ((((((h.oth hb hF _).oth hb hF _).oth hb hF _).oth hb hF _).oth hb hF _).oth hb hF _).oth hb hF _
theorem Vff {s:Int} (hs:I64 s) {W:World} {b:Nat} (h0:W.cell? ⟨b,0,none⟩=some (.int .i64 0)) (h1:W.cell? ⟨b,1,none⟩=some (.int .i64 0)) (h2:W.cell? ⟨b,2,none⟩=some (.int .i64 0)) (h3:W.cell? ⟨b,3,none⟩=some (.int .i64 0)) (h4:W.cell? ⟨b,4,none⟩=some (.int .i64 0)) (hb:b<W.heap.size):
  RDk (fun _=>True) W [.int .i64 s,.slice none 0 0,.slice none 0 0,.slice (some ⟨b,0,none⟩) 5 5,.slice none 0 0,.int .i64 1,.slice none 0 0] (Vam s):=
 ⟨_,_,_,_,_,rfl,hs,RSl.nil_ (Nat.zero_le _),RSl.nil_ (Nat.zero_le _),Ve5 (xs:=[0,0,0,0,0]) (fun j x hj=>by
  match j,hj with
  |0,hj=>injection hj with hj;subst hj;exact⟨h0,dC,dC⟩
  |1,hj=>injection hj with hj;subst hj;exact⟨h1,dC,dC⟩
  |2,hj=>injection hj with hj;subst hj;exact⟨h2,dC,dC⟩
  |3,hj=>injection hj with hj;subst hj;exact⟨h3,dC,dC⟩
  |4,hj=>injection hj with hj;subst hj;exact⟨h4,dC,dC⟩
  |j+5,hj=>simp at hj) trivial hb (Nat.le_refl 5) (by unfold maxLen;decide),RSl.nil_ (Nat.zero_le _),(show I64 1 from⟨dC,dC⟩),RSl.nil_ (Nat.zero_le _)⟩
def Vfe (H:Nat→Prop) (d:Dk) (er:Int) (w:World) (e:Ending) (w':World):Prop:=
 ∃(a1:Option Addr) (n1 c1:Nat) (a2:Option Addr) (n2 c2:Nat) (a3:Option Addr) (n3 c3:Nat) (a4:Option Addr) (n4 c4:Nat) (a5:Option Addr) (n5 c5:Nat),e= .returned (.tuple #[.agg #[.int .i64 d.site,.slice a1 n1 c1,.slice a2 n2 c2,.slice a3 n3 c3,.slice a4 n4 c4,.int .i64 d.clock,.slice a5 n5 c5],.int .i64 er])∧RDk H w' [.int .i64 d.site,.slice a1 n1 c1,.slice a2 n2 c2,.slice a3 n3 c3,.slice a4 n4 c4,.int .i64 d.clock,.slice a5 n5 c5] d∧Ext w w'
theorem Vfa {H:Nat→Prop} {d:Dk} {er:Int} {w:World} {e:Ending} {w':World} (h:Ve0 H d er w e w'):Vfe H d er w e w':=by
 obtain⟨va,vg,vs,vw,vo,rfl,hd,hx⟩:=h;obtain⟨h1,h2,h3,h4,h5⟩:=Ved hd;obtain⟨a1,n1,c1,rfl⟩:=h1.slice;obtain⟨a2,n2,c2,rfl⟩:=h2.slice;obtain⟨a3,n3,c3,rfl⟩:=h3.slice;obtain⟨a4,n4,c4,rfl⟩:=h4.slice;obtain⟨a5,n5,c5,rfl⟩:=h5.slice;exact⟨_,_,_,_,_,_,_,_,_,_,_,_,_,_,_,rfl,hd,hx⟩
theorem Ve1 {F G:Nat→Prop} {w:World} {cs ds:List Value} {d d':Dk} {er:Int} (h:RDk F w cs d) (k:RDk G w ds d') (hd:d=noK) (he:¬er=0):
  Calls Tryz.prog 32 #[.agg cs.toArray,.int .i64 er,.int .i64 er,.agg ds.toArray] w fun e w'=>e= .returned (.bool true)∧Ext w w':=by
 have HND:=hH (fun(W:World) (hx:Ext w W)=>Qwf (gDk.ext h hx) hd);obtain⟨va,vg,vs,vw,vo,rfl,_,ha,hg,hq,hw,_,ho⟩:=h;obtain⟨va',vg',vs',vw',vo',rfl,_,ka,kg,kq,kw,_,ko⟩:=k;obtain⟨a1,n1,k1,rfl⟩:=ha.slice;obtain⟨a2,n2,k2,rfl⟩:=hg.slice;obtain⟨a3,n3,k3,rfl⟩:=hq.slice;obtain⟨a4,n4,k4,rfl⟩:=hw.slice;obtain⟨a5,n5,k5,rfl⟩:=ho.slice;obtain⟨a1',n1',k1',rfl⟩:=ka.slice;obtain⟨a2',n2',k2',rfl⟩:=kg.slice;obtain⟨a3',n3',k3',rfl⟩:=kq.slice;obtain⟨a4',n4',k4',rfl⟩:=kw.slice;obtain⟨a5',n5',k5',rfl⟩:=ko.slice;have t1:(er !=0)=true:=by simpa using he
 clear ha hg hq hw ho ka kg kq kw ko he hd;go_enter Tryz.func32,Tryz.ntmps32;go_wp2_with (first|(go_at_call 48;go_must ((with_reducible refine(HND.o _ Qac).mono ?_);rintro e w3 ⟨rfl,hx3⟩;have HX3:=xY w hx3;clear hx3)))
 go_ret;exact⟨rfl,ext_trans HX3.o Qac⟩
theorem Vec {F G:Nat→Prop} {w:World} {cs ds:List Value} {d d':Dk} {er:Int} (h:RDk F w cs d) (k:RDk G w ds d') (h0:er=0→d'=d) (hn:¬er=0→d=noK):
  Calls Tryz.prog 32 #[.agg cs.toArray,.int .i64 er,.int .i64 er,.agg ds.toArray] w fun e w'=>e= .returned (.bool true)∧Ext w w':=by
 by_cases he:er=0
 ·subst he;obtain rfl:=h0 rfl;exact Vet h k
 ·exact Ve1 h k (hn he) he
theorem Veq (s:Int):(s<0∧Vdw s=3)∨(0≤s∧5≤s∧Vdw s=3)∨(0≤s∧s<5∧Vdw s=0):=by
 unfold Vdw inB;by_cases h1:s<0
 ·exact .inl ⟨h1,by rw[if_neg sP]⟩
 ·by_cases h2:5≤s
  ·exact .inr (.inl ⟨oM,h2,by rw[if_neg sP]⟩)
  ·exact .inr (.inr ⟨oM,oM,by rw[if_pos sP]⟩)
theorem Vfd (s:Int):(Vdw s=0→Vam s=Vdx s)∧(¬Vdw s=0→Vdx s=noK):=by
 unfold Vdw Vdx;cases inB s 0 4<;>simp
theorem Vey {d:Dk} {n:No} (h:Qaq d=0) (k:Qa0 n=0):Q2d d n=Q3r d n∧Vd7 d n=Van d n:=by
 have e:=Q69 h k;refine⟨e.symm,?_⟩;unfold Vd7 Van;rw[e]
theorem Ves {d:Dk} (h:¬Qiz d=0):Qre d=noK:=Qrf h
theorem Vd8 {F G:Nat→Prop} {w:World} {cs es:List Value} {d:Dk} {n:No} {site:Int} (h:RDk F w cs d) (k:RNo G w es n) (isite:I64 site):
  Calls Tryz.prog 7 #[.int .i64 site,.agg cs.toArray,.agg es.toArray] w fun e w'=>e= .returned (.bool true)∧Ext w w':=by
 have HDK:=hH (fun(W:World) (hx:Ext w W)=>gDk.ext (gDk.lt h) hx);have HNK:=hH (fun(W:World) (hx:Ext w W)=>gNo.ext (gNo.lt k) hx);have HNE:=hH (fun(W:World)=>(Q6m isite W).mono fun _ _ h=>Veu h);have HRC:=hH (fun(W:World) (hx:Ext w W)=>(Qwp (HDK.o W hx) (HNK.o W hx)).mono fun _ _ h=>Veu h);have HTA:=hH (fun(W:World) (hx:Ext w W)=>(Q4g (HDK.o W hx)).mono fun _ _ h=>Veu h);have HCP:=hH (fun(W:World) (hx:Ext w W)=>Qfk (HDK.o W hx));have HCD:=hH (fun(W:World) (hx:Ext w W)=>Qke (HDK.o W hx));have HCN:=hH (fun(W:World) (hx:Ext w W)=>Qrs (HNK.o W hx));obtain⟨va,vg,vs,vw,vo,rfl,ist,ha,hg,hq,hw,ick,ho⟩:=h;obtain⟨v6,v7,rfl,i6,i7,k6r,k7r⟩:=k;obtain⟨aa1,an1,ac1,rfl⟩:=ha.slice;obtain⟨aa2,an2,ac2,rfl⟩:=hg.slice;obtain⟨aa3,an3,ac3,rfl⟩:=hq.slice;obtain⟨aa4,an4,ac4,rfl⟩:=hw.slice;obtain⟨aa5,an5,ac5,rfl⟩:=ho.slice;obtain⟨a6,n6,c6,rfl⟩:=k6r.slice;obtain⟨a7,n7,c7,rfl⟩:=k7r.slice;obtain rfl:an5=d.out.length:=ho.len.1;have hocap:d.out.length≤ac5:=ho.len.2.1;have HLA:=hH (Vfd site);have HEA:=hH (Veq site);have HLB:=hH (fun(h:¬Q3r d n=0)=>Qsp h);have HLC:=hH (fun(h:¬Qiz d=0)=>Ves h);have HWB:=hH (show(¬Qaq d=0→Q3r d n=Qaq d)∧(Qaq d=0→¬Qa0 n=0→Q3r d n=Qa0 n)∧(Qaq d=0→Qa0 n=0→Q2d d n=Q3r d n∧Vd7 d n=Van d n) from⟨Q3s,Q3t,Vey⟩);have HWC:=hH (show(¬Qaq d=0→Qiz d=Qaq d)∧(Qaq d=0→d.out.length=0→Qiz d=5)∧(Qaq d=0→¬d.out.length=0→Qiz d=0∧Qre d={d with out:=d.out.tail}) from
  ⟨Q0d,fun h k=>Qwu h (List.length_eq_zero_iff.1 k),fun h k=>have e:=Q4e h (fun e=>k (by rw[e];rfl));⟨e,Q4f e⟩⟩)
 have HRK:=hH (fun(h:Qaq d=0)=>checkK_ok.1 h);obtain⟨eA,heA⟩:∃x:Int,Vdw site=x:=⟨_,rfl⟩;obtain⟨dA,hdA⟩:∃x:Dk,Vdx site=x:=⟨_,rfl⟩;obtain⟨eB,heB⟩:∃x:Int,Q3r d n=x:=⟨_,rfl⟩;obtain⟨dB,hdB⟩:∃x:Dk,Van d n=x:=⟨_,rfl⟩;obtain⟨eC,heC⟩:∃x:Int,Qiz d=x:=⟨_,rfl⟩;obtain⟨dC,hdC⟩:∃x:Dk,Qre d=x:=⟨_,rfl⟩;have HGF:=hH (fun(H:Nat→Prop) (hF:∀j,j<w.heap.size→H j) (hv:Qaq d=0) (hn:Qa0 n=0) (W:World) (hx:Ext w W) (hN:∀j,W.heap.size≤j→H j)=>(Vew (H:=H) (HDK.o W hx) (HNK.o W hx) (HRK.o hv) hn hF hF hN).mono fun _ _ h=>Vfa h);rw[heA,hdA] at HNE HLA;rw[heA] at HEA;rw[heB,hdB] at HRC HLB HWB;rw[heC,hdC] at HTA HLC HWC;obtain⟨vv,hvv⟩:∃x:Int,Qaq d=x:=⟨_,rfl⟩;obtain⟨cn,hcn⟩:∃x:Int,Qa0 n=x:=⟨_,rfl⟩;rw[hvv] at HCP HCD HWB HWC HGF;rw[hcn] at HCN HWB HGF;obtain⟨wv,hwv⟩:∃x:Int,x=if vv=0 then cn else vv:=⟨_,rfl⟩
 have HWV:=hH hwv;clear ha hg hq hw ho k6r k7r i6 i7 ist ick heA hdA heB hdB heC hdC hvv hcn hwv HRK;go_enter Tryz.func7,Tryz.ntmps7;go_upto_region 2 with(first|(go_at_call 54;go_must ((with_reducible refine(HNE.o _).mono ?_);rintro e w1 ⟨xa1,xn1,xc1,xa2,xn2,xc2,xa3,xn3,xc3,xa4,xn4,xc4,xa5,xn5,xc5,rfl,hd1,hx1⟩;obtain⟨c1_0,c1_1,c1_2,c1_3,c1_4,c1_5,c1_6⟩:=cC7 hx1 (w.heap.size) (.int .i64 d.site) (.slice aa1 an1 ac1) (.slice aa2 an2 ac2) (.slice aa3 an3 ac3) (.slice aa4 an4 ac4) (.int .i64 d.clock) (.slice aa5 d.out.length ac5);obtain⟨m1_0,m1_1,m1_2,m1_3⟩:=cC4 hx1 (w.heap.size+1) (.int .i64 n.site) (.int .i64 n.number) (.slice a6 n6 c6) (.slice a7 n7 c7);have hz1:=hx1.size;(try simp at hz1);have hp1:=zL hx1 w.heap.size;have hn1:=zL hx1 (w.heap.size+1);have hcf1:=fun(o:Nat)=>(hx1.frz (w.heap.size) o ltA).trans (show _=false by go_simp);have HX1:=xY w hx1;have HD1:=hH hd1;clear hd1 hx1)))
 refine Qad (fun Wa eWa=> ?_);have HAA:=hH (show DkAt (fun _=>True) (w1.heap.size) dA Wa (.slice xa1 xn1 xc1) (.slice xa2 xn2 xc2) (.slice xa3 xn3 xc3) (.slice xa4 xn4 xc4) (.slice xa5 xn5 xc5) from⟨by rw[eWa];go_simp,by rw[eWa];go_simp,by rw[eWa];go_simp,by rw[eWa];go_simp,by rw[eWa];go_simp,by rw[eWa];go_simp,by rw[eWa];go_simp,fun o=>by rw[eWa];go_simp,gDk.ext (gDk.more (fun k hk hl=>trivial) HD1.o) (show Ext w1 Wa by rw[eWa];exact Qac)⟩);have HPP:=hH (show DkAt (fun k=>k<w.heap.size) w.heap.size d Wa (.slice aa1 an1 ac1) (.slice aa2 an2 ac2) (.slice aa3 an3 ac3) (.slice aa4 an4 ac4) (.slice aa5 d.out.length ac5) from⟨by rw[eWa];go_simp,by rw[eWa];go_simp,by rw[eWa];go_simp,by rw[eWa];go_simp,by rw[eWa];go_simp,by rw[eWa];go_simp,by rw[eWa];go_simp,fun o=>by have hq:=hcf1 o;rw[eWa];go_simp,HDK.o Wa (by rw[eWa];exact ext_trans HX1.o Qac)⟩);have HNN:=hH (show Wa.cell? ⟨w.heap.size+1,0,none⟩=some (.int .i64 n.site)∧Wa.cell? ⟨w.heap.size+1,1,none⟩=some (.int .i64 n.number)∧Wa.cell? ⟨w.heap.size+1,2,none⟩=some (.slice a6 n6 c6)∧Wa.cell? ⟨w.heap.size+1,3,none⟩=some (.slice a7 n7 c7) from⟨by rw[eWa];go_simp,by rw[eWa];go_simp,by rw[eWa];go_simp,by rw[eWa];go_simp⟩);have hnl:w.heap.size+1<Wa.heap.size:=World.block_lt_of_cell? _ _ HNN.o.1;have HXa:=hH (show Ext w Wa by rw[eWa];exact ext_trans HX1.o Qac);have hba:w.heap.size≤w1.heap.size:=HX1.o.size;clear eWa HX1 HD1;generalize w1.heap.size=bA at *;obtain⟨p0,p1,p2,p3,p4,p5,p6⟩:=HPP.o.seven;obtain⟨m0,m1,m2,m3⟩:=HNN.o;have hpl:=HPP.o.lt;go_upto_region 3 with(first|(go_at_call 31;go_must ((with_reducible refine(HRC.o _ HXa.o).mono ?_);rintro e w2 ⟨ya1,yn1,yc1,ya2,yn2,yc2,ya3,yn3,yc3,ya4,yn4,yc4,ya5,yn5,yc5,rfl,hd2,hx2⟩;have HX2:=xY Wa hx2;have HD2:=hH hd2;clear hd2 hx2)))
 refine Qad (fun Wb eWb=> ?_);have HBB:=hH (show DkAt (fun _=>True) (w2.heap.size) dB Wb (.slice ya1 yn1 yc1) (.slice ya2 yn2 yc2) (.slice ya3 yn3 yc3) (.slice ya4 yn4 yc4) (.slice ya5 yn5 yc5) from⟨by rw[eWb];go_simp,by rw[eWb];go_simp,by rw[eWb];go_simp,by rw[eWb];go_simp,by rw[eWb];go_simp,by rw[eWb];go_simp,by rw[eWb];go_simp,fun o=>by rw[eWb];go_simp,gDk.ext (gDk.more (fun k hk hl=>trivial) HD2.o) (show Ext w2 Wb by rw[eWb];exact Qac)⟩);have HXab:=hH (show Ext Wa Wb by rw[eWb];exact ext_trans HX2.o Qac);have HXb:=hH (ext_trans HXa.o HXab.o);have HPP2:=hH (HPP.o.ext HXab.o);have HAA2:=hH (HAA.o.ext HXab.o);have hbb:Wa.heap.size≤w2.heap.size:=HX2.o.size;clear eWb HX2 HD2 HPP HAA p0 p1 p2 p3 p4 p5 p6 m0 m1 m2 m3 hpl;generalize w2.heap.size=bB at *;obtain⟨p0,p1,p2,p3,p4,p5,p6⟩:=HPP2.o.seven;have hpl:=HPP2.o.lt;go_upto_region 4 with(first|(go_at_call 38;go_must ((with_reducible refine(HTA.o _ HXb.o).mono ?_);rintro e w3 ⟨za1,zn1,zc1,za2,zn2,zc2,za3,zn3,zc3,za4,zn4,zc4,za5,zn5,zc5,rfl,hd3,hx3⟩;have HX3:=xY Wb hx3;have HD3:=hH hd3;clear hd3 hx3)))
 refine Qad (fun Wc eWc=> ?_);have HCC:=hH (show DkAt (fun _=>True) (w3.heap.size) dC Wc (.slice za1 zn1 zc1) (.slice za2 zn2 zc2) (.slice za3 zn3 zc3) (.slice za4 zn4 zc4) (.slice za5 zn5 zc5) from⟨by rw[eWc];go_simp,by rw[eWc];go_simp,by rw[eWc];go_simp,by rw[eWc];go_simp,by rw[eWc];go_simp,by rw[eWc];go_simp,by rw[eWc];go_simp,fun o=>by rw[eWc];go_simp,gDk.ext (gDk.more (fun k hk hl=>trivial) HD3.o) (show Ext w3 Wc by rw[eWc];exact Qac)⟩);have HXbc:=hH (show Ext Wb Wc by rw[eWc];exact ext_trans HX3.o Qac);have HXc:=hH (ext_trans HXb.o HXbc.o);have HPP3:=hH (HPP2.o.ext HXbc.o);have HAA3:=hH (HAA2.o.ext HXbc.o);have HBB3:=hH (HBB.o.ext HXbc.o);have HXac:=hH (ext_trans HXab.o HXbc.o);clear eWc HX3 HD3 HPP2 HAA2 HBB p0 p1 p2 p3 p4 p5 p6 hpl;generalize w3.heap.size=bC at *;go_upto_region 5 with fail
 obtain⟨b40,h40⟩:∃b:Bool,decide (¬eA=0)=b:=⟨_,rfl⟩;go_cut [40] from 35 to 40 (fun s wx=>s= .bool b40∧wx=Wc)
 case first=>
  rcases HEA.o with⟨g1,g2⟩|⟨g1,g2,g3⟩|⟨g1,g2,g3⟩
  ·have t1:decide (site<0)=true:=decide_eq_true g1;have t2:b40=true:=by rw[←h40,g2];rfl
   clear g1 g2;go_wp2_with fail
   go_meet
   exact⟨by rw[t2],rfl⟩
  ·have t1:decide (site<0)=false:=decide_eq_false oM;have t3:decide (5≤site)=true:=decide_eq_true g2;have t2:b40=true:=by rw[←h40,g3];rfl
   clear g1 g2 g3;go_wp2_with fail
   go_meet
   exact⟨by rw[t2],rfl⟩
  ·have t1:decide (site<0)=false:=decide_eq_false oM;have t3:decide (5≤site)=false:=decide_eq_false oM;have t2:b40=false:=by rw[←h40,g3];rfl
   clear g1 g2 g3;go_wp2_with fail
   go_meet
   exact⟨by rw[t2],rfl⟩
 case rest=>
  obtain⟨rfl,rfl⟩:=hcut;go_upto_if 40 with(fail)
  go_cut [13] from 35 to 40 (fun s wx=>s= .int .i64 eA∧wx=wc)
  case first=>
   have hea:(b40=true→eA=3)∧(b40=false→eA=0):=by
    rw[←h40];rcases HEA.o with⟨g1,g2⟩|⟨g1,g2,g3⟩|⟨g1,g2,g3⟩
    ·rw[g2];simp
    ·rw[g3];simp
    ·rw[g3];simp
   cases b40 with
   |true=>
    have HEE:=hH (hea.1 rfl);clear hea;go_wp2_with fail
    go_meet
    exact⟨by rw[HEE.o],rfl⟩
   |false=>
    have HEE:=hH (hea.2 rfl);clear hea;go_wp2_with fail
    go_meet
    exact⟨by rw[HEE.o],rfl⟩
  case rest=>
   obtain⟨rfl,rfl⟩:=hcut;clear h40 HEA;obtain⟨p0,p1,p2,p3,p4,p5,p6⟩:=HPP3.o.seven;have hpl:=HPP3.o.lt;have HXd0:=HXc;go_upto_if 46 with(first|(go_at_call 28;go_must ((with_reducible refine(HCD.o _ HXd0.o).mono ?_);rintro e w5 ⟨rfl,hx5⟩;have HX5:=hH hx5;clear hx5)))
   have HXd:=hH (ext_trans HXc.o HX5.o);obtain⟨Wd,eWd⟩:∃W:World,W=w5:=⟨w5,rfl⟩;subst eWd;have hnl5:=Nat.lt_of_lt_of_le hnl (ext_trans HXac.o HX5.o).size;obtain⟨m0',m1',m2',m3'⟩:=HNN.o;have HXad:=hH (ext_trans HXac.o HX5.o);have m0:=(HXad.o.cells _ _ hnl).trans m0';have m1:=(HXad.o.cells _ _ hnl).trans m1';have m2:=(HXad.o.cells _ _ hnl).trans m2';have m3:=(HXad.o.cells _ _ hnl).trans m3';clear m0' m1' m2' m3' p0 p1 p2 p3 p4 p5 p6 hpl;obtain⟨g46,hg46⟩:∃g:Bool,(vv==0)=g:=⟨_,rfl⟩;rw[hg46];go_cut [15] from 41 to 48 (fun s wx=>s= .int .i64 wv∧Hid (Ext Wd wx))
   case first=>
    cases g46 with
    |true=>
     have hv:vv=0:=by simpa using hg46
     have hw:=HWV.o;rw[if_pos hv] at hw;have HW:=hH hw;clear hv hg46 hw;go_wp2_with (first|(go_at_call 29;go_must ((with_reducible refine(HCN.o _ (ext_trans HXd.o Qac)).mono ?_);rintro e w6 ⟨rfl,hx6⟩;have HX6:=xY Wd hx6;clear hx6)))
     go_meet
     exact⟨by rw[HW.o],HX6⟩
    |false=>
     have hv:¬vv=0:=by simpa using hg46
     have hw:=HWV.o;rw[if_neg hv] at hw;have HW:=hH hw;clear hv hg46 hw;go_wp2_with fail
     go_meet
     exact⟨by rw[HW.o],hH (ext_refl _)⟩
   case rest=>
    obtain⟨rfl,HXdc⟩:=hcut;clear hg46;have HXdd:=hH (ext_trans HXd.o HXdc.o);have HPP4:=hH (HPP3.o.ext (ext_trans HX5.o HXdc.o));have HAA4:=hH (HAA3.o.ext (ext_trans HX5.o HXdc.o));have HBB4:=hH (HBB3.o.ext (ext_trans HX5.o HXdc.o));have HCC4:=hH (HCC.o.ext (ext_trans HX5.o HXdc.o));have HXae:=hH (ext_trans HXad.o HXdc.o);clear m0 m1 m2 m3 HPP3 HAA3 HBB3 HCC hnl5;obtain⟨Wf,eWf⟩:∃W:World,W=wc:=⟨wc,rfl⟩;subst eWf;go_upto_if 50 with fail
    refine Qad (fun We eWe=> ?_);have HGG0:=hH (show DkAt (fun k=>k≠Wf.heap.size∧k≠Wf.heap.size+1) Wf.heap.size noK We (.slice none 0 0) (.slice none 0 0) (.slice none 0 0) (.slice none 0 0) (.slice none 0 0) from⟨by rw[eWe];show World.cell? _ _=some (.int .i64 0);go_simp,by rw[eWe];go_simp,by rw[eWe];go_simp,by rw[eWe];go_simp,by rw[eWe];go_simp,by rw[eWe];show World.cell? _ _=some (.int .i64 0);go_simp,by rw[eWe];go_simp,fun o=>by rw[eWe];go_simp,Qsf⟩);have HTT0:=hH (show DkAt (fun k=>k≠Wf.heap.size∧k≠Wf.heap.size+1) (Wf.heap.size+1) noK We (.slice none 0 0) (.slice none 0 0) (.slice none 0 0) (.slice none 0 0) (.slice none 0 0) from⟨by rw[eWe];show World.cell? _ _=some (.int .i64 0);go_simp,by rw[eWe];go_simp,by rw[eWe];go_simp,by rw[eWe];go_simp,by rw[eWe];go_simp,by rw[eWe];show World.cell? _ _=some (.int .i64 0);go_simp,by rw[eWe];go_simp,fun o=>by rw[eWe];go_simp,Qsf⟩);have HXfe:=hH (xE Wf eWe);have HXe:=hH (ext_trans HXdd.o HXfe.o);have hwf:w.heap.size+1<Wf.heap.size:=Nat.lt_of_lt_of_le hnl HXae.o.size;have hgt:¬Wf.heap.size=(Wf.heap.size+1):=oM;have htg:¬(Wf.heap.size+1)=Wf.heap.size:=oM;have hwg:w.heap.size<Wf.heap.size:=oM;have hwt:w.heap.size<(Wf.heap.size+1):=oM;have hfg:Wf.heap.size≤Wf.heap.size:=oM;have hft:Wf.heap.size≤(Wf.heap.size+1):=oM;have hge:=HGG0.o.lt;have hte:=HTT0.o.lt;have HPP5:=hH (HPP4.o.ext HXfe.o);obtain⟨p0,p1,p2,p3,p4,p5,p6⟩:=HPP5.o.seven;have hpl:=HPP5.o.lt;obtain⟨m0',m1',m2',m3'⟩:=HNN.o;have HXaw:=hH (ext_trans HXae.o HXfe.o);have hnl5:=Nat.lt_of_lt_of_le hnl HXaw.o.size;have m0:=(HXaw.o.cells _ _ hnl).trans m0';have m1:=(HXaw.o.cells _ _ hnl).trans m1';have m2:=(HXaw.o.cells _ _ hnl).trans m2';have m3:=(HXaw.o.cells _ _ hnl).trans m3';clear eWe m0' m1' m2' m3';go_upto_if 50 with fail
    obtain⟨g50,hg50⟩:∃g:Bool,(wv==0)=g:=⟨_,rfl⟩;rw[hg50];go_cut [15] from 49 to 56 (fun s wx=>s= .int .i64 eB∧∃z1 z2 z3 z4 z5:Value,Hid (DkAt (fun k=>k≠Wf.heap.size∧k≠(Wf.heap.size+1)) Wf.heap.size dB wx z1 z2 z3 z4 z5)∧Hid (DkAt (fun k=>k≠Wf.heap.size∧k≠(Wf.heap.size+1)) (Wf.heap.size+1) noK wx (.slice none 0 0) (.slice none 0 0) (.slice none 0 0) (.slice none 0 0) (.slice none 0 0))∧Hid (Ext Wf wx))
    case first=>
     cases g50 with
     |true=>
      have hw:wv=0:=by simpa using hg50
      have hvn:vv=0∧cn=0:=by
       have h:=HWV.o;rw[hw] at h;by_cases hv:vv=0
       ·rw[if_pos hv] at h;exact⟨hv,h.symm⟩
       ·rw[if_neg hv] at h;exact absurd h.symm hv
      obtain⟨g1,g2⟩:=HWB.o.2.2 hvn.1 hvn.2;have HGF:=hH (fun(W:World) (hx:Ext w W) (hn:We.heap.size≤W.heap.size)=>HGF.o (fun k=>k≠Wf.heap.size∧k≠(Wf.heap.size+1)) (fun j hj=>⟨oM,oM⟩) hvn.1 hvn.2 W hx (fun j hj=>⟨oM,oM⟩));rw[g1,g2] at HGF;obtain⟨r0,r1,r2,r3,r4,r5,r6⟩:=HGG0.o.seven;obtain⟨f0,f1,f2,f3,f4,f5,f6⟩:=HGG0.o.fz7;clear hw hvn g1 g2 hg50;go_wp2_with (first|(go_at_call 30;go_must ((with_reducible refine(HGF.o _ HXe.o (Nat.le_refl _)).mono ?_);rintro e w7 ⟨ga1,gn1,gc1,ga2,gn2,gc2,ga3,gn3,gc3,ga4,gn4,gc4,ga5,gn5,gc5,rfl,hd7,hx7⟩;have HX7:=hH (show Ext We w7 from hx7);have HD7:=hH hd7;obtain⟨r7_0,r7_1,r7_2,r7_3,r7_4,r7_5,r7_6⟩:=tT7 hx7 hge r0 r1 r2 r3 r4 r5 r6;obtain⟨f7_0,f7_1,f7_2,f7_3,f7_4,f7_5,f7_6⟩:=fF7 hx7 hge f0 f1 f2 f3 f4 f5 f6;have hge7:=Nat.lt_of_lt_of_le hge hx7.size;clear hd7 hx7)))
      go_meet
      exact⟨rfl,_,_,_,_,_,hH ((HGG0.o.ext HX7.o).ok.put HD7.o (fun h=>h.1 rfl)),hH ((HTT0.o.ext HX7.o).othS hgt (fun h=>h.1 rfl) _ _ _ _ _ _ _),hH (Vee (ext_trans HXfe.o HX7.o) hfg _ _ _ _ _ _ _)⟩
     |false=>
      have hw:¬wv=0:=by simpa using hg50
      have hwb:wv=eB:=by
       have h:=HWV.o;by_cases hv:vv=0
       ·rw[if_pos hv] at h;rw[h] at hw ⊢;exact(HWB.o.2.1 hv hw).symm
       ·rw[if_neg hv] at h;rw[h];exact(HWB.o.1 hv).symm
      have hdb:dB=noK:=HLB.o (by rw[←hwb];exact hw);have HWW:=hH (And.intro hwb hdb);clear hw hg50 hwb hdb;go_wp2_with fail
      go_meet
      exact⟨by rw[HWW.o.1],_,_,_,_,_,by rw[HWW.o.2];exact HGG0,HTT0,HXfe⟩
    case rest=>
     obtain⟨rfl,g1,g2,g3,g4,g5,HGG,HTT,HXfc⟩:=hcut;clear hg50;have HPP6:=hH (HPP4.o.ext HXfc.o);have HAA6:=hH (HAA4.o.ext HXfc.o);have HBB6:=hH (HBB4.o.ext HXfc.o);have HCC6:=hH (HCC4.o.ext HXfc.o);have HXg:=hH (ext_trans HXdd.o HXfc.o);clear m0 m1 m2 m3 p0 p1 p2 p3 p4 p5 p6 hpl HPP5 HGG0 HTT0 hge hte HXfe HXe HGF;obtain⟨p0,p1,p2,p3,p4,p5,p6⟩:=HPP6.o.seven;have hpl:=HPP6.o.lt;obtain⟨Wg,eWg⟩:∃W:World,W=wc:=⟨wc,rfl⟩;subst eWg;go_upto_region 14 with fail
     obtain⟨b64,h64⟩:∃b:Bool,decide (vv=0∧d.out.length=0)=b:=⟨_,rfl⟩;go_cut [64] from 57 to 64 (fun s wx=>s= .bool b64∧wx=Wg)
     case first=>
      by_cases hv:vv=0
      ·have t1:(vv==0)=true:=by simp[hv]
       by_cases ho:d.out.length=0
       ·have t2:((d.out.length:Int)==0)=true:=by rw[ho];rfl
        have t3:b64=true:=by rw[←h64];exact decide_eq_true ⟨hv,ho⟩
        clear hv ho;go_wp2_with fail
        all_goals go_meet
        all_goals refine⟨?_,rfl⟩
        all_goals first
         |(rw[t3];done)
         |(rw[t3,t2];done)
       ·have t2:((d.out.length:Int)==0)=false:=by rw[beq_eq_false_iff_ne];omega
        have t3:b64=false:=by rw[←h64];exact decide_eq_false (fun h=>ho h.2)
        clear hv ho;go_wp2_with fail
        all_goals go_meet
        all_goals refine⟨?_,rfl⟩
        all_goals first
         |(rw[t3];done)
         |(rw[t3,t2];done)
      ·have t1:(vv==0)=false:=by simpa using hv
       have t3:b64=false:=by rw[←h64];exact decide_eq_false (fun h=>hv h.1)
       clear hv;go_wp2_with fail
       all_goals go_meet
       all_goals refine⟨?_,rfl⟩
       all_goals (rw[t3];done)
     case rest=>
      obtain⟨rfl,rfl⟩:=hcut;have hec:(b64=true→eC=5)∧(b64=false→eC=vv):=by
       rw[←h64];refine⟨fun h=> ?_,fun h=> ?_⟩
       ·obtain⟨h1,h2⟩:=of_decide_eq_true h;exact HWC.o.2.1 h1 h2
       ·have h2:=of_decide_eq_false h;by_cases hv:vv=0
        ·rw[hv];exact(HWC.o.2.2 hv (fun h=>h2 ⟨hv,h⟩)).1
        ·exact HWC.o.1 hv
      have HEC:=hH hec;clear hec h64;go_upto_if 64 with(fail)
      go_cut [16] from 57 to 64 (fun s wx=>s= .int .i64 eC∧wx=wc)
      case first=>
       cases b64 with
       |true=>
        have HEE:=hH (HEC.o.1 rfl);clear HEC;go_wp2_with fail
        go_meet
        exact⟨by rw[HEE.o],rfl⟩
       |false=>
        have HEE:=hH (HEC.o.2 rfl);clear HEC;go_wp2_with fail
        go_meet
        exact⟨by rw[HEE.o],rfl⟩
      case rest=>
       obtain⟨rfl,rfl⟩:=hcut;go_upto_if 66 with fail
       obtain⟨g66,hg66⟩:∃g:Bool,(eC==0)=g:=⟨_,rfl⟩;rw[hg66];go_cut [] from 65 to 71 (fun wx=>∃z1 z2 z3 z4 z5:Value,Hid (DkAt (fun k=>k≠(Wf.heap.size+1)) (Wf.heap.size+1) dC wx z1 z2 z3 z4 z5)∧Hid (DkAt (fun k=>k≠(Wf.heap.size+1)) Wf.heap.size dB wx g1 g2 g3 g4 g5)∧Hid (Ext Wf wx))
       case first=>
        cases g66 with
        |true=>
         have hc:eC=0:=by simpa using hg66
         have hv:vv=0:=by
          by_cases hv:vv=0
          ·exact hv
          ·exact absurd ((HWC.o.1 hv).symm.trans hc) hv
         have ho:¬d.out.length=0:=fun h=>by have e:=HWC.o.2.1 hv h;omega
         have hdc:=(HWC.o.2.2 hv ho).2;have HDC:=hH (show dC=⟨d.site,d.state,d.seen,d.waits,d.clock,d.out.tail⟩ from hdc);obtain⟨_,_,_,_,hpo⟩:=Ved HPP6.o.rd;obtain⟨b,o,m,b1,k1,f1,b2,k2,f2,ea,_,_,_,_,_,_,_⟩:=Qdj hpo (i:=0) oM;subst ea;have hsub:=Vac hpo (i:=1) (j:=d.out.length) oM (Nat.le_refl _);rw[show(d.out.drop 1).take (d.out.length-1)=d.out.tail by rw[List.drop_one];exact List.take_of_length_le (by rw[List.length_tail];exact Nat.le_refl _)] at hsub;obtain⟨r0,r1,r2,r3,r4,r5,r6⟩:=HTT.o.seven;obtain⟨f0,f1,f2,f3,f4,f5,f6⟩:=HTT.o.fz7;have hlo:1≤d.out.length:=oM;have hpt:¬w.heap.size=(Wf.heap.size+1):=oM;have hFt:¬((Wf.heap.size+1)<w.heap.size):=oM;clear hc hv ho hdc hpo hg66;by_cases hcp:ac5=1
         ·rw[if_pos hcp,show ac5-1=0 by omega] at hsub;have HSB:=hH hsub;clear hsub;go_wp2_with fail
          go_meet
          refine⟨.slice aa1 an1 ac1,.slice aa2 an2 ac2,.slice aa3 an3 ac3,.slice aa4 an4 ac4,.slice (some ⟨b,o,none⟩) (d.out.length-1) 0,?_,hH (((HGG.o.more (fun k h=>h.2)).othS htg (fun h=>h rfl) _ _ _ _ _ _ _).oth htg (fun h=>h rfl) _),hH (ext_set (Vee HXfc.o hft _ _ _ _ _ _ _) hft _)⟩;rw[HDC.o];refine hH ⟨gS,gS,gS,gS,gS,gS,World.cell?_setCell_same _ _ _ (show World.cell? _ _=some (.slice (some ⟨b,o,none⟩) d.out.length 1) by go_simp),fun o=> ?_,?_⟩
          ·have hq:=HTT.o.fz o;go_simp
          ·refine gDk.more (F:=fun k=>k<w.heap.size) (fun k hk _=>by have hk':k<w.heap.size:=hk;omega) ?_;repeat(with_reducible refine Vek ?_ hFt _)
           exact Q3q HPP6.o.rd HSB.o
         ·rw[if_neg hcp] at hsub;simp only[Option.map_some,Addr.add] at hsub;have HSC:=hH hsub;clear hsub;go_wp2_with fail
          go_meet
          refine⟨.slice aa1 an1 ac1,.slice aa2 an2 ac2,.slice aa3 an3 ac3,.slice aa4 an4 ac4,.slice (some ⟨b,o+4,none⟩) (d.out.length-1) (ac5-1),?rd,hH (((HGG.o.more (fun k h=>h.2)).othS htg (fun h=>h rfl) _ _ _ _ _ _ _).oth htg (fun h=>h rfl) _),hH (ext_set (Vee HXfc.o hft _ _ _ _ _ _ _) hft _)⟩;rw[HDC.o];refine hH ⟨gS,gS,gS,gS,gS,gS,World.cell?_setCell_same _ _ _ (show World.cell? _ _=some (.slice (some ⟨b,o,none⟩) d.out.length ac5) by go_simp),fun o=> ?_,?_⟩
          ·have hz:=HTT.o.fz o;go_simp
          ·refine gDk.more (F:=fun k=>k<w.heap.size) (fun j hk _=>by have hk':j<w.heap.size:=hk;omega) ?_;repeat(with_reducible refine Vek ?_ hFt _)
           exact Q3q HPP6.o.rd HSC.o
        |false=>
         have hc:¬eC=0:=by simpa using hg66
         have hdc:dC=noK:=HLC.o hc;have HDC:=hH hdc;clear hc hg66 hdc;go_wp2_with fail
         go_meet
         exact⟨_,_,_,_,_,by rw[HDC.o];exact hH (HTT.o.more (fun k h=>h.2)),hH (HGG.o.more (fun k h=>h.2)),HXfc⟩
       case rest=>
        obtain⟨t1,t2,t3,t4,t5,HTT,HGG,HXf7⟩:=hcut;clear hg66;have HPP:=hH (HPP4.o.ext HXf7.o);have HAA:=hH (HAA4.o.ext HXf7.o);have HBB:=hH (HBB4.o.ext HXf7.o);have HCC:=hH (HCC4.o.ext HXf7.o);have HX9:=hH (ext_trans HXdd.o HXf7.o);clear HPP4 HAA4 HBB4 HCC4 HPP6 HAA6 HBB6 HCC6 HXg HXf7 HXfc HWC HWB HEC p0 p1 p2 p3 p4 p5 p6 hpl HXdd HXae HXad HXac HXab HXbc HXa HXb HXc HXd HXdc HX5 HXd0;obtain⟨W9,eW9⟩:∃W:World,W=wc:=⟨wc,rfl⟩;subst eW9;obtain⟨qp0,qp1,qp2,qp3,qp4,qp5,qp6⟩:=HPP.o.seven;have hpl:=HPP.o.lt;obtain⟨qx0,qx1,qx2,qx3,qx4,qx5,qx6⟩:=HAA.o.seven;have hal:=HAA.o.lt;obtain⟨qy0,qy1,qy2,qy3,qy4,qy5,qy6⟩:=HBB.o.seven;have hbl:=HBB.o.lt;obtain⟨qz0,qz1,qz2,qz3,qz4,qz5,qz6⟩:=HCC.o.seven;have hcl:=HCC.o.lt;obtain⟨qg0,qg1,qg2,qg3,qg4,qg5,qg6⟩:=HGG.o.seven;have hgl:=HGG.o.lt;obtain⟨qt0,qt1,qt2,qt3,qt4,qt5,qt6⟩:=HTT.o.seven;have htl:=HTT.o.lt;have hmk:=Qt6;go_upto_region 19 with fail
        go_region_held3 (fun W=>W.cell? ⟨w.heap.size,0,none⟩=some (.int .i64 d.site)∧W.cell? ⟨w.heap.size,1,none⟩=some (.slice aa1 an1 ac1)∧W.cell? ⟨w.heap.size,2,none⟩=some (.slice aa2 an2 ac2)∧W.cell? ⟨w.heap.size,3,none⟩=some (.slice aa3 an3 ac3)∧W.cell? ⟨w.heap.size,4,none⟩=some (.slice aa4 an4 ac4)∧W.cell? ⟨w.heap.size,5,none⟩=some (.int .i64 d.clock)∧W.cell? ⟨w.heap.size,6,none⟩=some (.slice aa5 d.out.length ac5)∧W.cell? ⟨bA,0,none⟩=some (.int .i64 dA.site)∧W.cell? ⟨bA,1,none⟩=some (.slice xa1 xn1 xc1)∧W.cell? ⟨bA,2,none⟩=some (.slice xa2 xn2 xc2)∧W.cell? ⟨bA,3,none⟩=some (.slice xa3 xn3 xc3)∧W.cell? ⟨bA,4,none⟩=some (.slice xa4 xn4 xc4)∧W.cell? ⟨bA,5,none⟩=some (.int .i64 dA.clock)∧W.cell? ⟨bA,6,none⟩=some (.slice xa5 xn5 xc5)∧W.cell? ⟨bB,0,none⟩=some (.int .i64 dB.site)∧W.cell? ⟨bB,1,none⟩=some (.slice ya1 yn1 yc1)∧W.cell? ⟨bB,2,none⟩=some (.slice ya2 yn2 yc2)∧W.cell? ⟨bB,3,none⟩=some (.slice ya3 yn3 yc3)∧W.cell? ⟨bB,4,none⟩=some (.slice ya4 yn4 yc4)∧W.cell? ⟨bB,5,none⟩=some (.int .i64 dB.clock)∧W.cell? ⟨bB,6,none⟩=some (.slice ya5 yn5 yc5)∧W.cell? ⟨bC,0,none⟩=some (.int .i64 dC.site)∧W.cell? ⟨bC,1,none⟩=some (.slice za1 zn1 zc1)∧W.cell? ⟨bC,2,none⟩=some (.slice za2 zn2 zc2)∧W.cell? ⟨bC,3,none⟩=some (.slice za3 zn3 zc3)∧W.cell? ⟨bC,4,none⟩=some (.slice za4 zn4 zc4)∧W.cell? ⟨bC,5,none⟩=some (.int .i64 dC.clock)∧W.cell? ⟨bC,6,none⟩=some (.slice za5 zn5 zc5)∧W.cell? ⟨Wf.heap.size,0,none⟩=some (.int .i64 dB.site)∧W.cell? ⟨Wf.heap.size,1,none⟩=some (g1)∧W.cell? ⟨Wf.heap.size,2,none⟩=some (g2)∧W.cell? ⟨Wf.heap.size,3,none⟩=some (g3)∧W.cell? ⟨Wf.heap.size,4,none⟩=some (g4)∧W.cell? ⟨Wf.heap.size,5,none⟩=some (.int .i64 dB.clock)∧W.cell? ⟨Wf.heap.size,6,none⟩=some (g5)∧W.cell? ⟨(Wf.heap.size+1),0,none⟩=some (.int .i64 dC.site)∧W.cell? ⟨(Wf.heap.size+1),1,none⟩=some (t1)∧W.cell? ⟨(Wf.heap.size+1),2,none⟩=some (t2)∧W.cell? ⟨(Wf.heap.size+1),3,none⟩=some (t3)∧W.cell? ⟨(Wf.heap.size+1),4,none⟩=some (t4)∧W.cell? ⟨(Wf.heap.size+1),5,none⟩=some (.int .i64 dC.clock)∧W.cell? ⟨(Wf.heap.size+1),6,none⟩=some (t5)) (first|(exact⟨qp0,qp1,qp2,qp3,qp4,qp5,qp6,qx0,qx1,qx2,qx3,qx4,qx5,qx6,qy0,qy1,qy2,qy3,qy4,qy5,qy6,qz0,qz1,qz2,qz3,qz4,qz5,qz6,qg0,qg1,qg2,qg3,qg4,qg5,qg6,qt0,qt1,qt2,qt3,qt4,qt5,qt6⟩)|(with_reducible exact⟨(HX15.o.cells _ _ hpl).trans qp0,(HX15.o.cells _ _ hpl).trans qp1,(HX15.o.cells _ _ hpl).trans qp2,(HX15.o.cells _ _ hpl).trans qp3,(HX15.o.cells _ _ hpl).trans qp4,(HX15.o.cells _ _ hpl).trans qp5,(HX15.o.cells _ _ hpl).trans qp6,(HX15.o.cells _ _ hal).trans qx0,(HX15.o.cells _ _ hal).trans qx1,(HX15.o.cells _ _ hal).trans qx2,(HX15.o.cells _ _ hal).trans qx3,(HX15.o.cells _ _ hal).trans qx4,(HX15.o.cells _ _ hal).trans qx5,(HX15.o.cells _ _ hal).trans qx6,(HX15.o.cells _ _ hbl).trans qy0,(HX15.o.cells _ _ hbl).trans qy1,(HX15.o.cells _ _ hbl).trans qy2,(HX15.o.cells _ _ hbl).trans qy3,(HX15.o.cells _ _ hbl).trans qy4,(HX15.o.cells _ _ hbl).trans qy5,(HX15.o.cells _ _ hbl).trans qy6,(HX15.o.cells _ _ hcl).trans qz0,(HX15.o.cells _ _ hcl).trans qz1,(HX15.o.cells _ _ hcl).trans qz2,(HX15.o.cells _ _ hcl).trans qz3,(HX15.o.cells _ _ hcl).trans qz4,(HX15.o.cells _ _ hcl).trans qz5,(HX15.o.cells _ _ hcl).trans qz6,(HX15.o.cells _ _ hgl).trans qg0,(HX15.o.cells _ _ hgl).trans qg1,(HX15.o.cells _ _ hgl).trans qg2,(HX15.o.cells _ _ hgl).trans qg3,(HX15.o.cells _ _ hgl).trans qg4,(HX15.o.cells _ _ hgl).trans qg5,(HX15.o.cells _ _ hgl).trans qg6,(HX15.o.cells _ _ htl).trans qt0,(HX15.o.cells _ _ htl).trans qt1,(HX15.o.cells _ _ htl).trans qt2,(HX15.o.cells _ _ htl).trans qt3,(HX15.o.cells _ _ htl).trans qt4,(HX15.o.cells _ _ htl).trans qt5,(HX15.o.cells _ _ htl).trans qt6⟩)|(with_reducible exact⟨(HX14.o.cells _ _ hpl).trans qp0,(HX14.o.cells _ _ hpl).trans qp1,(HX14.o.cells _ _ hpl).trans qp2,(HX14.o.cells _ _ hpl).trans qp3,(HX14.o.cells _ _ hpl).trans qp4,(HX14.o.cells _ _ hpl).trans qp5,(HX14.o.cells _ _ hpl).trans qp6,(HX14.o.cells _ _ hal).trans qx0,(HX14.o.cells _ _ hal).trans qx1,(HX14.o.cells _ _ hal).trans qx2,(HX14.o.cells _ _ hal).trans qx3,(HX14.o.cells _ _ hal).trans qx4,(HX14.o.cells _ _ hal).trans qx5,(HX14.o.cells _ _ hal).trans qx6,(HX14.o.cells _ _ hbl).trans qy0,(HX14.o.cells _ _ hbl).trans qy1,(HX14.o.cells _ _ hbl).trans qy2,(HX14.o.cells _ _ hbl).trans qy3,(HX14.o.cells _ _ hbl).trans qy4,(HX14.o.cells _ _ hbl).trans qy5,(HX14.o.cells _ _ hbl).trans qy6,(HX14.o.cells _ _ hcl).trans qz0,(HX14.o.cells _ _ hcl).trans qz1,(HX14.o.cells _ _ hcl).trans qz2,(HX14.o.cells _ _ hcl).trans qz3,(HX14.o.cells _ _ hcl).trans qz4,(HX14.o.cells _ _ hcl).trans qz5,(HX14.o.cells _ _ hcl).trans qz6,(HX14.o.cells _ _ hgl).trans qg0,(HX14.o.cells _ _ hgl).trans qg1,(HX14.o.cells _ _ hgl).trans qg2,(HX14.o.cells _ _ hgl).trans qg3,(HX14.o.cells _ _ hgl).trans qg4,(HX14.o.cells _ _ hgl).trans qg5,(HX14.o.cells _ _ hgl).trans qg6,(HX14.o.cells _ _ htl).trans qt0,(HX14.o.cells _ _ htl).trans qt1,(HX14.o.cells _ _ htl).trans qt2,(HX14.o.cells _ _ htl).trans qt3,(HX14.o.cells _ _ htl).trans qt4,(HX14.o.cells _ _ htl).trans qt5,(HX14.o.cells _ _ htl).trans qt6⟩)|(with_reducible exact⟨(HX13.o.cells _ _ hpl).trans qp0,(HX13.o.cells _ _ hpl).trans qp1,(HX13.o.cells _ _ hpl).trans qp2,(HX13.o.cells _ _ hpl).trans qp3,(HX13.o.cells _ _ hpl).trans qp4,(HX13.o.cells _ _ hpl).trans qp5,(HX13.o.cells _ _ hpl).trans qp6,(HX13.o.cells _ _ hal).trans qx0,(HX13.o.cells _ _ hal).trans qx1,(HX13.o.cells _ _ hal).trans qx2,(HX13.o.cells _ _ hal).trans qx3,(HX13.o.cells _ _ hal).trans qx4,(HX13.o.cells _ _ hal).trans qx5,(HX13.o.cells _ _ hal).trans qx6,(HX13.o.cells _ _ hbl).trans qy0,(HX13.o.cells _ _ hbl).trans qy1,(HX13.o.cells _ _ hbl).trans qy2,(HX13.o.cells _ _ hbl).trans qy3,(HX13.o.cells _ _ hbl).trans qy4,(HX13.o.cells _ _ hbl).trans qy5,(HX13.o.cells _ _ hbl).trans qy6,(HX13.o.cells _ _ hcl).trans qz0,(HX13.o.cells _ _ hcl).trans qz1,(HX13.o.cells _ _ hcl).trans qz2,(HX13.o.cells _ _ hcl).trans qz3,(HX13.o.cells _ _ hcl).trans qz4,(HX13.o.cells _ _ hcl).trans qz5,(HX13.o.cells _ _ hcl).trans qz6,(HX13.o.cells _ _ hgl).trans qg0,(HX13.o.cells _ _ hgl).trans qg1,(HX13.o.cells _ _ hgl).trans qg2,(HX13.o.cells _ _ hgl).trans qg3,(HX13.o.cells _ _ hgl).trans qg4,(HX13.o.cells _ _ hgl).trans qg5,(HX13.o.cells _ _ hgl).trans qg6,(HX13.o.cells _ _ htl).trans qt0,(HX13.o.cells _ _ htl).trans qt1,(HX13.o.cells _ _ htl).trans qt2,(HX13.o.cells _ _ htl).trans qt3,(HX13.o.cells _ _ htl).trans qt4,(HX13.o.cells _ _ htl).trans qt5,(HX13.o.cells _ _ htl).trans qt6⟩)|(with_reducible exact⟨(HX12.o.cells _ _ hpl).trans qp0,(HX12.o.cells _ _ hpl).trans qp1,(HX12.o.cells _ _ hpl).trans qp2,(HX12.o.cells _ _ hpl).trans qp3,(HX12.o.cells _ _ hpl).trans qp4,(HX12.o.cells _ _ hpl).trans qp5,(HX12.o.cells _ _ hpl).trans qp6,(HX12.o.cells _ _ hal).trans qx0,(HX12.o.cells _ _ hal).trans qx1,(HX12.o.cells _ _ hal).trans qx2,(HX12.o.cells _ _ hal).trans qx3,(HX12.o.cells _ _ hal).trans qx4,(HX12.o.cells _ _ hal).trans qx5,(HX12.o.cells _ _ hal).trans qx6,(HX12.o.cells _ _ hbl).trans qy0,(HX12.o.cells _ _ hbl).trans qy1,(HX12.o.cells _ _ hbl).trans qy2,(HX12.o.cells _ _ hbl).trans qy3,(HX12.o.cells _ _ hbl).trans qy4,(HX12.o.cells _ _ hbl).trans qy5,(HX12.o.cells _ _ hbl).trans qy6,(HX12.o.cells _ _ hcl).trans qz0,(HX12.o.cells _ _ hcl).trans qz1,(HX12.o.cells _ _ hcl).trans qz2,(HX12.o.cells _ _ hcl).trans qz3,(HX12.o.cells _ _ hcl).trans qz4,(HX12.o.cells _ _ hcl).trans qz5,(HX12.o.cells _ _ hcl).trans qz6,(HX12.o.cells _ _ hgl).trans qg0,(HX12.o.cells _ _ hgl).trans qg1,(HX12.o.cells _ _ hgl).trans qg2,(HX12.o.cells _ _ hgl).trans qg3,(HX12.o.cells _ _ hgl).trans qg4,(HX12.o.cells _ _ hgl).trans qg5,(HX12.o.cells _ _ hgl).trans qg6,(HX12.o.cells _ _ htl).trans qt0,(HX12.o.cells _ _ htl).trans qt1,(HX12.o.cells _ _ htl).trans qt2,(HX12.o.cells _ _ htl).trans qt3,(HX12.o.cells _ _ htl).trans qt4,(HX12.o.cells _ _ htl).trans qt5,(HX12.o.cells _ _ htl).trans qt6⟩)|(with_reducible exact⟨(HX11.o.cells _ _ hpl).trans qp0,(HX11.o.cells _ _ hpl).trans qp1,(HX11.o.cells _ _ hpl).trans qp2,(HX11.o.cells _ _ hpl).trans qp3,(HX11.o.cells _ _ hpl).trans qp4,(HX11.o.cells _ _ hpl).trans qp5,(HX11.o.cells _ _ hpl).trans qp6,(HX11.o.cells _ _ hal).trans qx0,(HX11.o.cells _ _ hal).trans qx1,(HX11.o.cells _ _ hal).trans qx2,(HX11.o.cells _ _ hal).trans qx3,(HX11.o.cells _ _ hal).trans qx4,(HX11.o.cells _ _ hal).trans qx5,(HX11.o.cells _ _ hal).trans qx6,(HX11.o.cells _ _ hbl).trans qy0,(HX11.o.cells _ _ hbl).trans qy1,(HX11.o.cells _ _ hbl).trans qy2,(HX11.o.cells _ _ hbl).trans qy3,(HX11.o.cells _ _ hbl).trans qy4,(HX11.o.cells _ _ hbl).trans qy5,(HX11.o.cells _ _ hbl).trans qy6,(HX11.o.cells _ _ hcl).trans qz0,(HX11.o.cells _ _ hcl).trans qz1,(HX11.o.cells _ _ hcl).trans qz2,(HX11.o.cells _ _ hcl).trans qz3,(HX11.o.cells _ _ hcl).trans qz4,(HX11.o.cells _ _ hcl).trans qz5,(HX11.o.cells _ _ hcl).trans qz6,(HX11.o.cells _ _ hgl).trans qg0,(HX11.o.cells _ _ hgl).trans qg1,(HX11.o.cells _ _ hgl).trans qg2,(HX11.o.cells _ _ hgl).trans qg3,(HX11.o.cells _ _ hgl).trans qg4,(HX11.o.cells _ _ hgl).trans qg5,(HX11.o.cells _ _ hgl).trans qg6,(HX11.o.cells _ _ htl).trans qt0,(HX11.o.cells _ _ htl).trans qt1,(HX11.o.cells _ _ htl).trans qt2,(HX11.o.cells _ _ htl).trans qt3,(HX11.o.cells _ _ htl).trans qt4,(HX11.o.cells _ _ htl).trans qt5,(HX11.o.cells _ _ htl).trans qt6⟩)|go_keep) (first|(go_at_call 22;((with_reducible refine(Qhs _).mono ?_);rintro e w11 ⟨rfl,hx11⟩;have HX11:=xY W9 hx11;clear hx11))|(go_at_call 55;go_must ((with_reducible refine(HCP.o _ (ext_trans HX9.o (ext_trans HX11.o Qac))).mono ?_);rintro e w12 ⟨rfl,hx12⟩;have HX12:=xX HX11 hx12;clear hx12))|(go_at_call 32;((with_reducible refine(Vec (gDk.ext HAA.o.read (ext_trans HX12.o Qac)) (Vff isite gS gS gS gS gS ltA) HLA.o.1 HLA.o.2).mono ?_);rintro e w13 ⟨rfl,hx13⟩;have HX13:=xX HX12 hx13;clear hx13))|(go_at_call 32;((with_reducible refine(Vec (gDk.ext HBB.o.read (ext_trans HX13.o Qac)) (gDk.ext HGG.o.read (ext_trans HX13.o Qac)) (fun _=>rfl) HLB.o).mono ?_);rintro e w14 ⟨rfl,hx14⟩;have HX14:=xX HX13 hx14;clear hx14))|(go_at_call 32;go_must ((with_reducible refine(Vec (gDk.ext HCC.o.read (ext_trans HX14.o Qac)) (gDk.ext HTT.o.read (ext_trans HX14.o Qac)) (fun _=>rfl) HLC.o).mono ?_);rintro e w15 ⟨rfl,hx15⟩;have HX15:=xX HX14 hx15;clear hx15)))
        all_goals (go_wp2_with fail)
        all_goals go_ret
        all_goals
         have h15:=HX15.o;exact⟨rfl,ext_trans HX9.o Qac⟩
end Go.Proofs.YtgnccjojfebkeaaGreat
