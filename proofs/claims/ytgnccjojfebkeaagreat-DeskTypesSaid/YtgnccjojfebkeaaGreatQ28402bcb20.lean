/- IsPut, of what Put makes. -/
import Derived.Test.YtgnccjojfebkeaaGreatQ05c48fb51f
import Derived.Test.YtgnccjojfebkeaaGreatQb39306f8ed
import Derived.Test.YtgnccjojfebkeaaGreatQa70fadfe36
import Derived.Test.YtgnccjojfebkeaaGreatQed8dd0ae12
import Derived.Test.YtgnccjojfebkeaaGreatQd9fe7e2782
import Derived.Test.YtgnccjojfebkeaaGreatQd7523a9f8c
import Derived.Test.YtgnccjojfebkeaaGreatQ7826b3be5b
import Derived.Test.YtgnccjojfebkeaaGreatQ453a98ae2d
import Derived.Test.YtgnccjojfebkeaaGreatQb497ca1fba
set_option linter.unusedVariables false
set_option linter.unusedSimpArgs false
set_option maxRecDepth 100000
set_option maxHeartbeats 4000000
namespace Go.Proofs.YtgnccjojfebkeaaGreat
open Go Go.RowKit Go.BigFrame Cp
theorem Qp7 {r:Rn} (h:Qbd r=0):Qat (Qdw r)=0:=by
 unfold Qat;rw[if_pos (show(Qdw r).kind=1 from rfl),if_neg (by rw[show(Qdw r).run=r from rfl,h];simp),if_neg (by simp[Qdw,Qbf])]
theorem Q2c {rs:List Rn} {i:Nat} {r:Rn} (h:rs[i]?=some r):(rs.take (i+1)).flatMap Qav=(rs.take i).flatMap Qav++Qav r:=by
 obtain⟨h1,h2⟩:=List.getElem?_eq_some_iff.1 h;rw[List.take_succ_eq_append_getElem h1,h2,List.flatMap_append];simp
theorem Q51 {rs:List Rn} {zs:List At} (h:rs.flatMap Qav=zs) (i:Nat):((rs.take i).flatMap Qav).length≤zs.length:=by
 have e:rs.flatMap Qav=(rs.take i).flatMap Qav++(rs.drop i).flatMap Qav:=by rw[←List.flatMap_append,List.take_append_drop]
 rw[←h,e,List.length_append];omega
theorem Q8x {a b:Nat} (h:a≤300) (hb:b≤60):a+b≤maxLen:=Nat.le_trans (by omega:a+b≤360) (by unfold maxLen;decide)
theorem Q8w {a b:Nat} (h:a≤300) (hb:b≤60):(a+b) * 40≤140737488355328:=oM
theorem Q5g {a:List UInt8} {b:ByteArray} (h:a=b.data.toList):(⟨a.toArray⟩:ByteArray)=b:=by subst h;exact Qww b
theorem Q99 {la zs:List At} {u:ByteArray} {k:Nat} (hl:zs.length=u.size) (hz:∀(i:Nat) (a:At),zs[i]?=some a→u.data.toList[i]?=some a.2):
  (⟨(Qc3 (List.take k la++zs++List.drop k la)).toArray⟩:ByteArray)=(⟨(Qc3 la).toArray⟩:ByteArray).extract 0 k++u++(⟨(Qc3 la).toArray⟩:ByteArray).extract k (⟨(Qc3 la).toArray⟩:ByteArray).size:=by
 apply Q5g
 have e:Qc3 zs=u.data.toList:=by
  apply List.ext_getElem?
  intro i;by_cases hi:i<zs.length
  ·obtain⟨a,ha⟩:∃a,zs[i]?=some a:=⟨_,List.getElem?_eq_getElem hi⟩;rw[hz i a ha];unfold Qc3;rw[List.getElem?_map,ha];rfl
  ·rw[List.getElem?_eq_none (by unfold Qc3;simpa using hi),List.getElem?_eq_none sP]
 rw[Vb8,←e];unfold Qc3;simp[List.map_append,List.map_take,List.map_drop]
theorem Q0f (l:List At):(⟨(Qc3 l).toArray⟩:ByteArray).size=l.length:=by show(Qc3 l).toArray.size=_;unfold Qc3;simp
theorem Q2r {F G:Nat→Prop} {w:World} {cs:List Value} {s:St} {x:Value} {k:Nat} {site clock:Int} {u:ByteArray} (h:RSt F w cs s) (hl:RSl RDe 7 G w x (Qj6 s k u.data.toList site clock)) (hE:Qet s k u.data.toList site clock=0):
  Calls Tryz.prog 50 #[.agg cs.toArray,.int .i64 k,.string u,.int .i64 site,.int .i64 clock,x] w fun e w'=>e= .returned (.bool true)∧Ext w w':=by
 have hul:u.data.toList.length=u.size:=sI;obtain⟨hfs,⟨k',hk1,hk⟩,_,hu60,hlu,_,_,_⟩:=Qfn hE;obtain rfl:k=k':=oM;obtain⟨fl,fc,fv,ff,fr,fa,fd⟩:=Qir hE;rw[hul] at fl hu60 hlu;generalize Qj6 s k u.data.toList site clock=l at *;generalize Qf5 s k u.data.toList site clock=zs at *;have has:zs.length≤60:=oM;have hrl:(Qct zs).length≤60:=by have:=Qg7 zs;omega
 have HRX:=hH (fun(W:World) (G:Nat→Prop) (v:Value) (hv:RSl RAt 3 G W v zs)=>Qz5 hv fc);have HDO:=hH (fun(W:World) (hx:Ext w W)=>Qxb (gSt.ext h hx) (hl.ext gDe hx) hfs (fun d hd=>by rw[fv] at hd;obtain⟨r,hr,rfl⟩:=List.mem_map.1 hd;exact Qp7 (fr r hr)));rw[fd] at HDO;generalize Qct zs=rs at *;have hll:l.length=rs.length:=by rw[fv,List.length_map]
 have hrun:l.map (·.run)=rs:=by rw[fv,List.map_map];exact List.map_id' rs
 have HRI:=hH (fun(W:World) (hx:Ext w W)=>(show Calls Tryz.prog 121 #[x] W (Qve rs W) by have:=Qz4 (hl.ext gDe hx) (show l.length≤300 by omega);rwa [hrun] at this));have HFL:=hH ff;have HFLN:=hH (fun i=>Q51 ff i);have HFR:=hH fr;have HFV:=hH fv;have HFA:=hH fa;have HL:=hH (show RSl RDe 7 (fun j=>j<w.heap.size) w x l from RSl.more gDe (fun _ _ hk=>hk) hl);obtain⟨v,y,rfl,h1,h2⟩:=h;obtain⟨la,lg⟩:=s;simp only at h1 h2 hk hlu HFA HDO;have HLA:=hH (fun(W:World) (hx:Ext w W)=>h1.ext gAt hx);have HLG:=hH (fun(W:World) (hx:Ext w W)=>h2.ext gMk hx);obtain⟨a0,n0,c0,rfl⟩:=h1.slice;obtain⟨a1,n1,c1,rfl⟩:=h2.slice;obtain⟨a2,n2,c2,rfl⟩:=hl.slice;obtain rfl:n0=la.length:=h1.len.1;obtain rfl:n1=lg.length:=h2.len.1;obtain rfl:n2=rs.length:=hl.len.1.trans hll;obtain⟨j0,hj0,hy0,hy1,hy2⟩:=info_parts Qks;have HJA:=hH hj0;have HZA0:=hH hy0;have HZA1:=hH hy1;have HZA2:=hH hy2;have HFE:=hH fl;have t0:((zs.length:Int) !=(u.size:Int))=false:=by rw[fl];simp
 clear fl hll;clear h1 h2 hl hE fv ff fr fa fd fc hj0 hy0 hy1 hy2 hfs hk1 hrun hul;go_enter Tryz.func50,Tryz.ntmps50;go_wp2_with fail
 refine Qad (fun wb ewb=> ?_);obtain⟨b0,b1⟩:=rR2 ewb w.heap.size (.slice a0 la.length c0) (.slice a1 lg.length c1);have HWB:=hH (xE w ewb);have hbb:w.heap.size<wb.heap.size:=World.block_lt_of_cell? _ _ b0;clear ewb;go_loopw [13,14] (fun ov iv wr=>∃i:Nat,i≤rs.length∧iv= .int .i64 i∧Hid (OSl RAt 3 129 wb.heap.size (fun j=>wb.heap.size≤j) wr ov ((rs.take i).flatMap Qav))∧Hid (Ext wb wr)) (fun _ iv _=>rs.length-(intOf iv).toNat)
 case atStart=>exact⟨0,Nat.zero_le _,rfl,hH Qbn,hH (ext_refl _)⟩
 case round=>
  obtain⟨i,hi,rfl,HO,HXB⟩:=hrel;have x0:=(HXB.o.cells _ _ hbb).trans b0;have x1:=(HXB.o.cells _ _ hbb).trans b1;have HX:=hH (ext_trans HWB.o HXB.o);have hsr:=HXB.o.size;have hwr:w.heap.size<wr.heap.size:=oM;have HOL:=hH (Qak HO.o);obtain⟨a6,n6,c6,rfl⟩:=Qab HO.o;obtain rfl:n6=((rs.take i).flatMap Qav).length:=(Qa2 HO.o).1;have hm6:=HFLN.o i;by_cases hlt:i<rs.length
  ·obtain⟨b,o,d,b1',m1,e1,b2',m2,e2,sx,rfl,hb,ek,hde,u0,u1,u2,u3,u4,u5,u6⟩:=Qfd (HL.o.ext gDe HX.o) hlt;obtain⟨r,hr,rfl⟩:∃r,rs[i]?=some r∧d=Qdw r:=by
    have e:=ek;rw[HFV.o,List.getElem?_map] at e;cases hh:rs[i]? with
    |none=>rw[hh] at e;cases e
    |some r=>rw[hh] at e;exact⟨r,rfl,(Option.some.inj e).symm⟩
   have hrr:=HFR.o r (List.mem_of_getElem? hr);have HCD:=hH (fun(W:World) (hx:Ext wr W)=>(show Calls Tryz.prog 85 #[.agg #[.int .i64 1,.slice b1' m1 e1,.int .i64 r.1.2,.string sx,.slice b2' m2 e2,.int .i64 0,.int .i64 0]] W (fun e w'=>e= .returned (.int .i64 (Qat (Qdw r)))∧Ext W w') from Qkd (gDe.ext hde hx)));rw[Qp7 hrr] at HCD;obtain⟨q1,q2,q3,he,_,k1,k2,k3,_,_,_⟩:=hde;injection he with he0 he
   injection he with he1 he
   injection he with he2 he
   injection he with he3 he
   subst he1;subst he3;have HAO:=hH (fun(W:World) (hx:Ext wr W)=>(show Calls Tryz.prog 118 #[.agg #[.slice b1' m1 e1,.int .i64 r.1.2,.string sx]] W (Qvb (Qav r) W) from Qvj (r:=r) ⟨_,_,rfl,k1.ext Qap hx,k2,k3⟩ hrr));have hsn:=Q2c hr;have hal:(Qav r).length≤60:=by rw[Qlx];exact(Qb1 hrr).2.2.1
   have u0':wr.cell? ⟨b,o+i * 7,none⟩=some (.int .i64 1):=u0;have u2':wr.cell? ⟨b,o+i * 7+2,none⟩=some (.int .i64 r.1.2):=u2;have u5':wr.cell? ⟨b,o+i * 7+5,none⟩=some (.int .i64 0):=u5;have u6':wr.cell? ⟨b,o+i * 7+6,none⟩=some (.int .i64 0):=u6;have hbr:b<wr.heap.size:=hb;clear u0 u2 u5 u6 ek hr hrr he he0 he2 k1 k2 k3;generalize (rs.take i).flatMap Qav=ms at *;generalize Qav r=ar at *;generalize r.1.2=rc at *;go_wp2_with (first|(go_at_call 85;go_must ((with_reducible refine(HCD.o _ Qac).mono ?_);rintro e w1 ⟨rfl,hx1⟩;have hs1:=hx1.size;(try simp at hs1);have p0:=cL hx1 (b) (o+i * 7+1) (.slice b1' m1 e1);have p1:=cL hx1 (b) (o+i * 7+2) (.int .i64 rc);have p2:=cL hx1 (b) (o+i * 7+3) (.string sx);have HX1:=xY wr hx1))|(go_at_call 118;go_must ((with_reducible refine(HAO.o _ (ext_trans HX1.o Qac)).mono ?_);rintro e w2 ⟨v2,rfl,hv2,hx2⟩;obtain⟨a7,n7,c7,rfl⟩:=hv2.slice;obtain rfl:n7=ar.length:=hv2.len.1;have HV2:=hH hv2;have HX2:=xX HX1 hx2;clear hv2))|(at_builtin;go_must (refine Qaj gAt rfl (.tmp 40) (.tmp 46) 39 rfl wb.heap.size 129 j0 _ 3 40 Tryz.underlying39 HJA.o HZA0.o HZA1.o HZA2.o rfl oM (F:=fun j=>wb.heap.size≤j) (G:=fun j=>w1.heap.size≤j) (.slice a6 ms.length c6) ms rfl (Qai gAt HO.o (ext_trans HX2.o Qac)) (.slice a7 ar.length c7) ar rfl (HV2.o.ext gAt Qac) Qe7 (fun j hj _=>⟨by have:=HX1.o.size;omega,fun e=>by have:=HOL.o j e.symm;have:=HX1.o.size;omega⟩) (Q8x oM hal) (Q8w oM hal) (by have:=HX2.o.size;first|omega|(simp<;>omega)) ?_;intro v9 w9 hown9 hg9 hat9;obtain⟨a9,n9,c9,rfl⟩:=Qab hown9;have HX9:=hH (show Ext wb w9 from Qao (ext_trans HXB.o (ext_trans HX2.o Qac)) hg9 (fun j hj=>(HOL.o j hj).1));have HV9:=hH hown9)))
   go_roundw
   case rel=>exact⟨i+1,oM,by go_num,hH (by rw[hsn];exact HV9.o),HX9⟩
   case measure=>simp[intOf];omega
  ·obtain rfl:i=rs.length:=oM;have hzz:(rs.take rs.length).flatMap Qav=zs:=by rw[List.take_of_length_le (Nat.le_refl _)];exact HFL.o
   rw[hzz] at HO HOL hm6 ⊢;have HZ:=hH (show RSl RAt 3 (fun j=>j<wr.heap.size) wr (.slice a6 zs.length c6) zs from RSl.more gAt (fun _ _ hl=>hl) (Qaz gAt HO.o (G:=fun _=>True) (fun _ _ _=>trivial) (fun _ _=>trivial)));clear HO HOL hm6 hzz HFL HFLN HFR HFV;go_wp2_with (first|(go_at_call 120;go_must ((with_reducible refine(HRX.o _ _ _ (HZ.o.ext gAt Qac)).mono ?_);rintro e w3 ⟨v3,rfl,hv3,hx3⟩;have hs3:=hx3.size;(try simp at hs3);obtain⟨a3,n3,c3,rfl⟩:=hv3.slice;have HV3:=hH hv3;obtain⟨r0,r1⟩:=cC2 hx3 (w.heap.size) (.slice a0 la.length c0) (.slice a1 lg.length c1);have HX3:=xY wr hx3;clear hv3))|(go_at_call 121;go_must ((with_reducible refine(HRI.o _ (ext_trans HX.o (ext_trans HX3.o Qac))).mono ?_);rintro e w4 ⟨v4,rfl,hv4,hx4⟩;have hs4:=hx4.size;(try simp at hs4);obtain⟨a4,n4,c4,rfl⟩:=hv4.slice;have HV4:=hH hv4;obtain⟨s0,s1⟩:=cC2 hx4 (w.heap.size) (.slice a0 la.length c0) (.slice a1 lg.length c1);have HX4:=xX HX3 hx4;clear hv4))|(go_at_call 119;go_must ((with_reducible refine(Quu (HV3.o.ext gRn (ext_trans hx4 Qac)) (HV4.o.ext gRn Qac)).mono ?_);rintro e w5 ⟨rfl,hx5⟩;have hs5:=hx5.size;(try simp at hs5);obtain⟨t0,t1⟩:=cC2 hx5 (w.heap.size) (.slice a0 la.length c0) (.slice a1 lg.length c1);have HX5:=xX HX4 hx5)))
   refine Qad (fun wc ewc=> ?_);obtain⟨d0,d1⟩:=rR2 ewc w.heap.size (.slice a0 la.length c0) (.slice a1 lg.length c1);have HXR:=hH (show Ext wr wc by rw[ewc];exact ext_trans HX5.o Qac);have hcb:w.heap.size<wc.heap.size:=World.block_lt_of_cell? _ _ d0;clear ewc HV3 HV4 HX3 HX4 HX5 hx3 hx4 hx5 r0 r1 s0 s1 t1 x0 x1 HRX HRI b0 b1;obtain⟨W0,hW0⟩:∃W0:World,W0=wr:=⟨_,rfl⟩;have HXC:=hH (show Ext w wc from ext_trans HX.o HXR.o);have HZC:=hH (show RSl RAt 3 (fun _=>True) wc (.slice a6 zs.length c6) zs from RSl.more gAt (fun _ _ _=>trivial) (HZ.o.ext gAt HXR.o));clear HX HXR HXB HWB HZ hsr hwr hW0;go_loopw [15] (fun iv wr=>∃i:Nat,i≤zs.length∧iv= .int .i64 i∧Hid (Ext wc wr)) (fun iv _=>zs.length-(intOf iv).toNat)
   case atStart=>exact⟨0,Nat.zero_le _,rfl,hH (ext_refl _)⟩
   case round=>
    obtain⟨i,hi2,rfl,HXD⟩:=hrel;have x0:=(HXD.o.cells _ _ hcb).trans d0;have x1:=(HXD.o.cells _ _ hcb).trans d1;have HX:=hH (ext_trans HXC.o HXD.o);have hsr:=HXD.o.size;have hwr:w.heap.size<wr.heap.size:=oM;by_cases hlt:i<zs.length
    ·obtain⟨b,o,p,d,sg,ap,cp,rfl,hb,ek,ick,hpp,y0,y1,y2⟩:=Qcd (HZC.o.ext gAt HXD.o) hlt;obtain⟨f1,f2,f3,f4,f5,f6⟩:=HFA.o i _ ek;have hiu:i<u.size:=by have:=HFE.o;omega
     have hsg:u[i]=sg:=by
      rw[List.getElem?_eq_getElem (by simpa using hiu)] at f2;exact Option.some.inj f2
     simp only at f1 f3 f4 f5 f6;have HLS:=hH (fun(W:World) (hx:Ext wr W)=>Qgf (Qam (hpp.ext Qap hx) ick) f1);have HHM:=hH (fun(W:World) (hx:Ext wr W)=>Qor (HLA.o W (ext_trans HX.o hx)) (Qam (hpp.ext Qap hx) ick));have HHG:=hH (fun(W:World) (hx:Ext wr W)=>Qht (HLG.o W (ext_trans HX.o hx)) (Qam (hpp.ext Qap hx) ick));simp only[f3] at HLS;rw[f5] at HHM;rw[f6] at HHG;have hcw:IntKind.i64.wrap (clock+(i:Int))=d:=by rw[←f4];exact IntWalk.i64_in _ (by have:=checkM_ok.1 f1;omega)
     have hbr:b<wr.heap.size:=hb;clear ek ick hpp f1 f2 f3 f5 f6 f4;subst hsg;go_wp2_with fail
     refine Qad (fun W2 eW2=> ?_);obtain⟨e0,e1⟩:=rR2 eW2 w.heap.size (.slice a0 la.length c0) (.slice a1 lg.length c1);have e2:=rL eW2 ⟨b,o+i * 3,none⟩ (.slice ap p.length cp);have e3:=rL eW2 ⟨b,o+i * 3+1,none⟩ (.int .i64 d);have e4:=rL eW2 ⟨b,o+i * 3+2,none⟩ (.int .u8 (u[i]).toNat);obtain⟨e5,e6⟩:=rR2 eW2 wr.heap.size (.slice ap p.length cp) (.int .i64 d);have zW2_0:=zE eW2 w.heap.size;have zW2_1:=zE eW2 b;have zW2_2:=zE eW2 wr.heap.size;have hw2:=xE wr eW2;clear eW2;refine Qaa fol kR (fun hlater=> ?_);repeat(go_big_quiet_step ((first
       |(go_at_call 115;(with_reducible exact Qah (HLS.o _ (ext_trans hw2 (Later.ext _)))))
       |(go_at_call 122;(with_reducible exact Qah (HHM.o _ (ext_trans hw2 (Later.ext _)))))
       |(go_at_call 61;(with_reducible exact Qah (HHG.o _ (ext_trans hw2 (Later.ext _))))))))
     refine wpQuiet_nil ?_;rintro W3 ⟨⟨w3x,hx3⟩,rfl⟩;clear hlater;go_wp2_with fail
     go_roundw
     case rel=>exact⟨i+1,oM,by go_num,hH (ext_trans HXD.o (ext_trans hw2 hx3))⟩
     case measure=>simp[intOf];omega
    ·obtain rfl:i=zs.length:=oM;have hT3:(List.take k la++zs++List.drop k la).length≤300:=by have:=HFE.o;simp only[List.length_append,List.length_take,List.length_drop];omega
     have HTX:=hH (fun(W:World) (hx:Ext w W)=>Qhc (HLA.o W hx) (show la.length≤300 by omega));have HTY:=hH (fun(W:World) (F:Nat→Prop) (v:Value) (hv:RSl RAt 3 F W v (List.take k la++zs++List.drop k la))=>Qhc hv hT3);rw[Q99 HFE.o (fun i a h=>(HFA.o i a h).2.1)] at HTY;have hsz:(⟨(Qc3 la).toArray⟩:ByteArray).size=la.length:=Q0f la;clear hT3;generalize (⟨(Qc3 la).toArray⟩:ByteArray)=S at *;generalize List.take k la++zs++List.drop k la=la' at *;have hkS:k≤S.size:=oM;have hS3:S.size≤300:=oM;have HSZ:=hH hsz;clear hsz HFA HJA HZA0 HZA1 HZA2 HFE HZC t0;go_wp2_with (first|(go_at_call 53;go_must ((with_reducible refine(HDO.o _ (ext_trans HX.o Qac)).mono ?_);rintro e w6 hraw;obtain⟨v6,y6,rfl,hv6,hy6,hx6⟩:=hraw;obtain⟨a8,n8,c8,rfl⟩:=hv6.slice;obtain⟨a9,n9,c9,rfl⟩:=hy6.slice;have HV6:=hH hv6;have hs6:=hx6.size;(try simp at hs6);have l6:w.heap.size<w6.heap.size:=oM;obtain⟨q0,q1⟩:=cC2 hx6 (w.heap.size) (.slice a0 la.length c0) (.slice a1 lg.length c1);have HX6:=xY wr hx6;clear hv6 hy6))|(go_at_call 69;go_must ((with_reducible refine(HTX.o _ (ext_trans HX.o (ext_trans HX6.o Qac))).mono ?_);rintro e w8 ⟨rfl,hx8⟩;have hs8:=hx8.size;(try simp at hs8);have q80:=cL hx8 (w6.heap.size) (0) (.slice a8 n8 c8))))
     refine Qad (fun W5 eW5=> ?_);have e0:=rL eW5 ⟨w6.heap.size,0,none⟩ (.slice a8 n8 c8);have z0:w6.heap.size<W5.heap.size:=World.block_lt_of_cell? _ _ e0;have HV5:=hH (HV6.o.ext gAt (show Ext w6 W5 by rw[eW5];exact ext_trans (ext_alloc (ext_refl _) _) Qac));have hw5:=xE wr eW5 (ext_trans HX6.o Qac);clear eW5;refine Qaa fol kR (fun hlater=> ?_);repeat(go_big_quiet_step ((go_at_call 69;(with_reducible exact Qah (HTY.o _ _ _ (HV5.o.ext gAt (Later.ext _)))))))
     refine wpQuiet_nil ?_;rintro W7 ⟨⟨w7x,hx7⟩,rfl⟩;clear hlater;go_wp2_with fail
     go_ret;exact⟨rfl,ext_trans HX.o (ext_trans hw5 hx7)⟩
end Go.Proofs.YtgnccjojfebkeaaGreat
