/- CheckPut. -/
import Derived.Test.YtgnccjojfebkeaaGreatQ05c48fb51f
import Derived.Test.YtgnccjojfebkeaaGreatQ453a98ae2d
import Derived.Test.YtgnccjojfebkeaaGreatQa50ddd2d9a
set_option linter.unusedVariables false
set_option linter.unusedSimpArgs false
set_option maxRecDepth 100000
set_option maxHeartbeats 4000000
namespace Go.Proofs.YtgnccjojfebkeaaGreat
open Go Go.RowKit Go.BigFrame Cp
theorem inB_inside {p:Int} {n:Nat}:inB p 0 n=Qb8 p 0 n:=by
 unfold inB Qb8;by_cases h:0≤p
 ·by_cases h2:p≤n
  ·rw[decide_eq_true h,decide_eq_true h2,decide_eq_true (by omega:(0:Int)≤0),decide_eq_true (by omega:(0:Int)≤n-p)];rfl
  ·rw[decide_eq_true h,decide_eq_false h2,decide_eq_true (by omega:(0:Int)≤0)];rfl
 ·rw[decide_eq_false h];rfl
theorem Vdp {s:St} {site clock:Int} (h:(s.1.any fun x=>Qb2 site clock x.1)=true):Qjh s site clock=true:=by unfold Qjh;rw[h,Bool.or_true]
theorem Vdq {s:St} {site clock:Int} (h:(s.2.any fun x=>Qb2 site clock x)=true):Qjh s site clock=true:=by unfold Qjh;rw[h,Bool.true_or]
theorem Q9r {p:Int} {n:Nat} (h:Qb8 p 0 n=true):∃i:Nat,p=(i:Int)∧i≤n:=by
 obtain⟨i,j,h1,_,h2⟩:=Qgx h;exact⟨i,h1,oM⟩
theorem Zaq {p:Prop} (h:p:=by
 go_wp2_with (first|(go_at_call 115;go_must ((with_reducible refine(HLS.o _ Qac).mono ?_);rintro e w2 ⟨rfl,hx2⟩;have hs2:=hx2.size;(try simp at hs2);have l2_0:=zL hx2 w.heap.size;have l2_1:=zL hx2 b;obtain⟨q0,q1⟩:=cC2 hx2 (w.heap.size) (.slice a0 la.length c0) (.slice (some ⟨b,o,none⟩) lg.length c1);have q2:=cL hx2 (b) (o+i * 2) (.slice ap p'.length cp);have q3:=cL hx2 (b) (o+i * 2+1) (.int .i64 d))))
 go_roundw
 case rel=>exact⟨i+1,oM,by go_num,HD,hH (ext_trans HXB.o (ext_trans Qac hx2))⟩
 case measure=>simp[intOf];omega):p:=h
theorem Zap {p:Prop} (h:p:=by
 go_wp2_with (first|(go_at_call 115;go_must ((with_reducible refine(HLS.o _ Qac).mono ?_);rintro e w2 ⟨rfl,hx2⟩;have hs2:=hx2.size;(try simp at hs2);have l2_0:=zL hx2 w.heap.size;have l2_1:=zL hx2 b;obtain⟨q0,q1⟩:=cC2 hx2 (w.heap.size) (.slice (some ⟨b,o,none⟩) la.length c0) (.slice a1 lg.length c1);have q2:=cL hx2 (b) (o+i * 3) (.slice ap p'.length cp);have q3:=cL hx2 (b) (o+i * 3+1) (.int .i64 d))))
 go_roundw
 case rel=>exact⟨i+1,oM,by go_num,HD,hH (ext_trans HXB.o (ext_trans Qac hx2))⟩
 case measure=>simp[intOf];omega):p:=h
theorem Zaj {p:Prop} (h:p:=by
 clear HCB;go_wp2_with (first|(go_at_call 116;go_must ((with_reducible refine(HSG.o _).mono ?_);rintro e w9 ⟨rfl,rfl⟩;))|(go_at_call 117;go_must ((with_reducible refine(HC2.o _ Qac).mono ?_);rintro e w3 ⟨rfl,hx3⟩;)))
 go_ret;exact⟨rfl,ext_trans HX.o (ext_trans Qac hx3)⟩):p:=h
theorem Qtc {F:Nat→Prop} {w:World} {cs:List Value} {s:St} {p site clock:Int} {u:ByteArray} (h:RSt F w cs s) (hu:u.size≤140737488351232) (ic:I64 clock):
  Calls Tryz.prog 47 #[.agg cs.toArray,.int .i64 p,.string u,.int .i64 site,.int .i64 clock] w fun e w'=>e= .returned (.int .i64 (Qet s p u.data.toList site clock))∧Ext w w':=by
 have hul:u.data.toList.length=u.size:=sI;have HCK:=hH (fun(W:World) (hx:Ext w W)=>Qjm (gSt.ext h hx));have HSG:=hH (fun(W:World)=>Qml u W (Nat.le_trans hu (by unfold maxLen;decide)));obtain⟨v,x,rfl,h1,h2⟩:=h;obtain⟨la,lg⟩:=s;simp only at h1 h2 HCK;have HLA:=hH (fun(W:World) (hx:Ext w W)=>h1.ext gAt hx);have HLG:=hH (fun(W:World) (hx:Ext w W)=>h2.ext gMk hx);obtain⟨a0,n0,c0,rfl⟩:=h1.slice;obtain⟨a1,n1,c1,rfl⟩:=h2.slice;obtain rfl:n0=la.length:=h1.len.1;obtain rfl:n1=lg.length:=h2.len.1;clear h1 h2;by_cases h0:Qax (la,lg)=0
 ·have hfs:=checkS_fit.1 h0;have hn:la.length≤300:=hfs.2.1;have hn6:lg.length≤600:=hfs.2.2;have HGK:=hH hfs.1.2.2.1;have HAK:=hH (fun x hx=>(hfs.1.1.2 x hx).1);clear hfs;by_cases hi:Qb8 p 0 la.length=true
  ·have HIN:=hH (inB_inside.trans hi);obtain⟨k,rfl,hk⟩:=Q9r hi;obtain⟨er,her⟩:∃er,er=Qet (la,lg) k u.data.toList site clock:=⟨_,rfl⟩;have HE4:=hH (show Qjh (la,lg) site clock=true→er=4 from fun h=>by rw[her];unfold Qet;rw[if_neg (by simpa using h0),if_neg (by simp only[hi];simp),if_pos h]);have HER:=hH (show Qjh (la,lg) site clock=false→er=if 60<u.size∨300<la.length+u.size then 2 else if u.data.toList=[] then 1 else if Qbj u.data.toList=false then 3 else Qa5 (Qej la k) (Qdd la k) site clock u.size from fun h=>by rw[her];unfold Qet;rw[if_neg (by simpa using h0),if_neg (by simp only[hi];simp),if_neg (by rw[h];simp),hul,Int.toNat_natCast]);rw[←her];rw[h0] at HCK;clear her h0 hi;go_enter Tryz.func47,Tryz.ntmps47;go_wp2_with (first|(go_at_call 79;go_must ((with_reducible refine(HCK.o _ Qac).mono ?_);rintro e w1 ⟨rfl,hx1⟩;have hs1:=hx1.size;(try simp at hs1);have l1:=zL hx1 w.heap.size;obtain⟨p0,p1⟩:=cC2 hx1 (w.heap.size) (.slice a0 la.length c0) (.slice a1 lg.length c1);have HX1:=xY w hx1))|(go_at_call 66;go_must ((with_reducible refine(Qas _ _ _ _).mono ?_);rintro e w9 ⟨rfl,rfl⟩;rw[HIN.o])))
   refine Qad (fun wb ewb=> ?_);obtain⟨b0,b1⟩:=rR2 ewb w.heap.size (.slice a0 la.length c0) (.slice a1 lg.length c1);have HWB:=hH (show Ext w wb by rw[ewb];exact ext_trans HX1.o Qac);have hbb:w.heap.size<wb.heap.size:=World.block_lt_of_cell? _ _ b0;clear ewb HX1 hx1 p0 p1 HIN HCK;go_loopw [13] (fun iv wr=>∃i:Nat,i≤la.length∧iv= .int .i64 i∧Hid ((la.take i).any (fun(x:At)=>Qb2 site clock x.1)=false)∧Hid (Ext wb wr)) (fun iv _=>la.length-(intOf iv).toNat)
   case atStart=>exact⟨0,Nat.zero_le _,rfl,hH sI,hH (ext_refl _)⟩
   case round=>
    obtain⟨i,hil,rfl,HN,HXB⟩:=hrel;have x0:=(HXB.o.cells _ _ hbb).trans b0;have x1:=(HXB.o.cells _ _ hbb).trans b1;have HX:=hH (ext_trans HWB.o HXB.o);have hsr:=HXB.o.size;have hwr:w.heap.size<wr.heap.size:=oM;by_cases hlt:i<la.length
    ·obtain⟨b,o,p',d,u',ap,cp,rfl,hb,ek,ick,hpp,y0,y1,y2⟩:=Qcd (HLA.o wr HX.o) hlt;have hcm:=HAK.o _ (List.mem_of_getElem? ek);have HLS:=hH (fun(W:World) (hx:Ext wr W)=>Qgf (Qam (hpp.ext Qap hx) ick) hcm);have HA:=hH (Qdn (p:=fun(x:At)=>Qb2 site clock x.1) ek);have hL:Qb2 site clock (p',d)=((Qbq p'==site) && decide (clock≤d)):=rfl;have hbr:b<wr.heap.size:=hb;have hwb':w.heap.size<wb.heap.size:=hbb;clear ek ick hpp hcm;simp only at HLS HA;rw[hL] at HA;generalize Qbq p'=ls at *;clear hL;cases g1:(ls==site) with
     |false=>
      have HD:=hH (show(la.take (i+1)).any (fun(x:At)=>Qb2 site clock x.1)=false by rw[HA.o,HN.o,g1];rfl);exact Zap
     |true=>
      have hse:ls=site:=by simpa using g1
      cases g2:decide (clock≤d) with
      |false=>
       have HD:=hH (show(la.take (i+1)).any (fun(x:At)=>Qb2 site clock x.1)=false by rw[HA.o,HN.o,g1,g2];rfl);clear hse;exact Zap
      |true=>
       have HC:=hH (Qbz (p:=fun(x:At)=>Qb2 site clock x.1) (k:=i+1) (by rw[HA.o,HN.o,g1,g2];rfl));clear hse;go_wp2_with (first|(go_at_call 115;go_must ((with_reducible refine(HLS.o _ Qac).mono ?_);rintro e w2 ⟨rfl,hx2⟩;have hs2:=hx2.size;(try simp at hs2);have l2_0:=zL hx2 w.heap.size;have l2_1:=zL hx2 b;obtain⟨q0,q1⟩:=cC2 hx2 (w.heap.size) (.slice (some ⟨b,o,none⟩) la.length c0) (.slice a1 lg.length c1);have q2:=cL hx2 (b) (o+i * 3) (.slice ap p'.length cp);have q3:=cL hx2 (b) (o+i * 3+1) (.int .i64 d))))
       go_ret;exact⟨ri (HE4.o (Vdp HC.o)).symm,ext_trans HX.o (ext_trans Qac hx2)⟩
    ·obtain rfl:i=la.length:=oM;have HNA:=hH (show la.any (fun(x:At)=>Qb2 site clock x.1)=false by have:=HN.o;rwa [List.take_of_length_le (Nat.le_refl _)] at this);clear HN;go_wp2_with fail
     refine Qad (fun wb2 ewb2=> ?_);obtain⟨b0',b1'⟩:=rR2 ewb2 w.heap.size (.slice a0 la.length c0) (.slice a1 lg.length c1);have HWB2:=hH (show Ext w wb2 by rw[ewb2];exact ext_trans HX.o Qac);clear ewb2 x0 x1 HX HXB hsr hwr b0 b1 HWB hbb;have hbb:w.heap.size<wb2.heap.size:=World.block_lt_of_cell? _ _ b0';go_loopw [14] (fun iv wr=>∃i:Nat,i≤lg.length∧iv= .int .i64 i∧Hid ((lg.take i).any (fun(x:Mk)=>Qb2 site clock x)=false)∧Hid (Ext wb2 wr)) (fun iv _=>lg.length-(intOf iv).toNat)
     case atStart=>exact⟨0,Nat.zero_le _,rfl,hH sI,hH (ext_refl _)⟩
     case round=>
      obtain⟨i,hil,rfl,HN,HXB⟩:=hrel;have x0:=(HXB.o.cells _ _ hbb).trans b0';have x1:=(HXB.o.cells _ _ hbb).trans b1';have HX:=hH (ext_trans HWB2.o HXB.o);have hsr:=HXB.o.size;have hwr:w.heap.size<wr.heap.size:=oM;by_cases hlt:i<lg.length
      ·obtain⟨b,o,p',d,ap,cp,rfl,hb,ek,ick,hpp,y0,y1⟩:=Qc7 (HLG.o wr HX.o) hlt;have hcm:=HGK.o _ (List.mem_of_getElem? ek);have HLS:=hH (fun(W:World) (hx:Ext wr W)=>Qgf (Qam (hpp.ext Qap hx) ick) hcm);have HA:=hH (Qdn (p:=fun(x:Mk)=>Qb2 site clock x) ek);have hL:Qb2 site clock (p',d)=((Qbq p'==site) && decide (clock≤d)):=rfl;have hbr:b<wr.heap.size:=hb;have hwb':w.heap.size<wb2.heap.size:=hbb;clear ek ick hpp hcm;simp only at HLS HA;rw[hL] at HA;generalize Qbq p'=ls at *;clear hL;cases g1:(ls==site) with
       |false=>
        have HD:=hH (show(lg.take (i+1)).any (fun(x:Mk)=>Qb2 site clock x)=false by rw[HA.o,HN.o,g1];rfl);exact Zaq
       |true=>
        have hse:ls=site:=by simpa using g1
        cases g2:decide (clock≤d) with
        |false=>
         have HD:=hH (show(lg.take (i+1)).any (fun(x:Mk)=>Qb2 site clock x)=false by rw[HA.o,HN.o,g1,g2];rfl);clear hse;exact Zaq
        |true=>
         have HC:=hH (Qbz (p:=fun(x:Mk)=>Qb2 site clock x) (k:=i+1) (by rw[HA.o,HN.o,g1,g2];rfl));clear hse;go_wp2_with (first|(go_at_call 115;go_must ((with_reducible refine(HLS.o _ Qac).mono ?_);rintro e w2 ⟨rfl,hx2⟩;have hs2:=hx2.size;(try simp at hs2);have l2_0:=zL hx2 w.heap.size;have l2_1:=zL hx2 b;obtain⟨q0,q1⟩:=cC2 hx2 (w.heap.size) (.slice a0 la.length c0) (.slice (some ⟨b,o,none⟩) lg.length c1);have q2:=cL hx2 (b) (o+i * 2) (.slice ap p'.length cp);have q3:=cL hx2 (b) (o+i * 2+1) (.int .i64 d))))
         go_ret;exact⟨ri (HE4.o (Vdq HC.o)).symm,ext_trans HX.o (ext_trans Qac hx2)⟩
      ·obtain rfl:i=lg.length:=oM;have HNG:=hH (show lg.any (fun(x:Mk)=>Qb2 site clock x)=false by have:=HN.o;rwa [List.take_of_length_le (Nat.le_refl _)] at this);clear HN;have hus:Qjh (la,lg) site clock=false:=by unfold Qjh;simp only[HNA.o,HNG.o];rfl
       have HE:=hH (HER.o hus);clear hus HER HE4 HNA HNG HAK HGK HLG HXB hsr hlt hil;by_cases hm:60<u.size∨300<la.length+u.size
       ·have HR:=hH (show er=2 by rw[HE.o,if_pos hm]);by_cases h60:60<u.size
        ·have t1:decide ((60:Int)<(u.size:Int))=true:=decide_eq_true oM;have hu9:u.size≤9223372036854775807:=oM;go_wp2_with fail
         go_ret;exact⟨ri HR.o.symm,ext_trans HX.o Qac⟩
        ·have t1:decide ((60:Int)<(u.size:Int))=false:=decide_eq_false oM;have t2:decide ((300:Int)<(la.length:Int)+(u.size:Int))=true:=decide_eq_true oM;have hu9:u.size≤60:=oM;go_wp2_with fail
         go_ret;exact⟨ri HR.o.symm,ext_trans HX.o Qac⟩
       ·have hu9:u.size≤60:=oM;have hlu:la.length+u.size≤300:=oM;have t1:decide ((60:Int)<(u.size:Int))=false:=decide_eq_false oM;have t2:decide ((300:Int)<(la.length:Int)+(u.size:Int))=false:=decide_eq_false oM;by_cases hz:u.size=0
        ·have he:=Qgw hz;have HR:=hH (show er=1 by rw[HE.o,if_neg hm,if_pos (Qe3 hz)]);clear hz hm;go_wp2_with fail
         go_ret;exact⟨ri HR.o.symm,ext_trans HX.o Qac⟩
        ·have he:=Qi3 hz;cases hsg:Qbj u.data.toList with
         |false=>
          have HR:=hH (show er=3 by rw[HE.o,if_neg hm,if_neg (Qdg hz),if_pos hsg]);rw[hsg] at HSG;clear hz hm hsg;go_wp2_with (first|(go_at_call 116;go_must ((with_reducible refine(HSG.o _).mono ?_);rintro e w9 ⟨rfl,rfl⟩;)))
          go_ret;exact⟨ri HR.o.symm,ext_trans HX.o Qac⟩
         |true=>
          have HR:=hH (show er=Qa5 (Qej la k) (Qdd la k) site clock u.size by rw[HE.o,if_neg hm,if_neg (Qdg hz),if_neg (by rw[hsg];simp)]);have HCB:=hH (fun(W:World) (F G:Nat→Prop) (cs ds:List Value) (ha:RMk F W cs (Qej la k)) (hb:RMk G W ds (Qdd la k))=>Qm6 (site:=site) ha hb ic (show I64 (u.size:Int) from Qal oM oM));rw[←HR.o] at HCB;rw[hsg] at HSG;clear hz hm hsg HE HR;by_cases hk0:k=0
          ·subst hk0;have ha:Qej la 0=([],0):=rfl;rw[ha] at HCB;by_cases hlt:0<la.length
           ·obtain⟨b,o,p,d,s,ap,cp,rfl,hb,ek,ick,hpp,y0,y1,y2⟩:=Qcd (HLA.o wr HX.o) hlt;simp only[Nat.zero_mul,Nat.add_zero] at y0 y1 y2;have hb':Qdd la 0=(p,d):=by unfold Qdd;rw[ek];rfl
            rw[hb'] at HCB;have t3:decide ((0:Int)<(la.length:Int))=true:=decide_eq_true oM;have t4:¬la=[]:=by intro h;subst h;simp at hlt
            have nn0:¬b=wr.heap.size:=oM;have nn1:¬b=wr.heap.size+1:=oM;have nnl0:b≤wr.heap.size:=oM;have nnl1:b≤wr.heap.size+1:=oM;have HPB:=hH (fun(W:World) (hx:Ext wr W)=>Qam (hpp.ext Qap hx) ick);clear ha hb' ek hpp ick;have HC2:=hH (fun(W:World) (hx:Ext wr W)=>HCB.o W F F _ _ Qun (HPB.o W hx));exact Zaj
           ·have hb':Qdd la 0=([],0):=by unfold Qdd;rw[List.getElem?_eq_none oM];rfl
            rw[hb'] at HCB;have t3:decide ((0:Int)<(la.length:Int))=false:=decide_eq_false oM;have t4:la.length=0:=oM;clear ha hb';have HC2:=hH (fun(W:World) (hx:Ext wr W)=>HCB.o W F F _ _ Qun Qun);exact Zaj
          ·obtain⟨j,rfl⟩:∃j,k=j+1:=⟨k-1,oM⟩;have hj:j<la.length:=oM;obtain⟨b',o',p',d',s',ap',cp',rfl,hb9,ek',ick',hpp',z0,z1,z2⟩:=Qcd (HLA.o wr HX.o) hj;have HPC:=hH (fun(W:World) (hx:Ext wr W)=>Qam (hpp'.ext Qap hx) ick');clear hpp' ick';have ha:Qej la (j+1)=(p',d'):=by unfold Qej;rw[if_neg oM,Nat.add_sub_cancel,ek'];rfl
           rw[ha] at HCB;have nm0:¬b'=wr.heap.size:=oM;have nm1:¬b'=wr.heap.size+1:=oM;have nml0:b'≤wr.heap.size:=oM;have nml1:b'≤wr.heap.size+1:=oM;have t5:decide ((0:Int)<(j:Int)+1)=true:=decide_eq_true oM;have t6:(0:Int)<(j:Int)+1:=oM;by_cases hlt:j+1<la.length
           ·obtain⟨b,o,p,d,s,ap,cp,hba,hb,ek,ick,hpp,y0,y1,y2⟩:=Qcd (HLA.o wr HX.o) hlt;obtain⟨rfl,rfl⟩:b'=b∧o'=o:=by simpa using hba
            have hb':Qdd la (j+1)=(p,d):=by unfold Qdd;rw[ek];rfl
            rw[hb'] at HCB;have t3:decide ((j:Int)+1<(la.length:Int))=true:=decide_eq_true oM;have HPB:=hH (fun(W:World) (hx:Ext wr W)=>Qam (hpp.ext Qap hx) ick);clear ha hb' ek ek' hba hpp ick;have HC2:=hH (fun(W:World) (hx:Ext wr W)=>HCB.o W F F _ _ (HPC.o W hx) (HPB.o W hx));exact Zaj
           ·have hb':Qdd la (j+1)=([],0):=by unfold Qdd;rw[List.getElem?_eq_none oM];rfl
            rw[hb'] at HCB;have t3:decide ((j:Int)+1<(la.length:Int))=false:=decide_eq_false oM;clear ha hb' ek';have HC2:=hH (fun(W:World) (hx:Ext wr W)=>HCB.o W F F _ _ (HPC.o W hx) Qun);exact Zaj
  ·have hi':Qb8 p 0 la.length=false:=by simpa using hi
   have HIN:=hH (inB_inside.trans hi');have hE:Qet (la,lg) p u.data.toList site clock=3:=by unfold Qet;rw[if_neg (by simpa using h0),if_pos hi']
   rw[hE];rw[h0] at HCK;clear h0 hi hi' hE;go_enter Tryz.func47,Tryz.ntmps47;go_wp2_with (first|(go_at_call 79;go_must ((with_reducible refine(HCK.o _ Qac).mono ?_);rintro e w1 ⟨rfl,hx1⟩;have hs1:=hx1.size;(try simp at hs1);have l1:=zL hx1 w.heap.size;obtain⟨p0,p1⟩:=cC2 hx1 (w.heap.size) (.slice a0 la.length c0) (.slice a1 lg.length c1);have HX1:=xY w hx1))|(go_at_call 66;go_must ((with_reducible refine(Qas _ _ _ _).mono ?_);rintro e w9 ⟨rfl,rfl⟩;rw[HIN.o])))
   go_ret;exact⟨rfl,ext_trans HX1.o Qac⟩
 ·have hE:Qet (la,lg) p u.data.toList site clock=Qax (la,lg):=by unfold Qet;rw[if_pos h0]
  rw[hE];have g0:(Qax (la,lg) !=0)=true:=by simpa using h0
  generalize Qax (la,lg)=er at *;clear h0 hE;go_enter Tryz.func47,Tryz.ntmps47;go_wp2_with (first|(go_at_call 79;go_must ((with_reducible refine(HCK.o _ Qac).mono ?_);rintro e w1 ⟨rfl,hx1⟩;have hs1:=hx1.size;(try simp at hs1);have l1:=zL hx1 w.heap.size;obtain⟨p0,p1⟩:=cC2 hx1 (w.heap.size) (.slice a0 la.length c0) (.slice a1 lg.length c1);have HX1:=xY w hx1)))
  go_ret;exact⟨rfl,ext_trans HX1.o Qac⟩
end Go.Proofs.YtgnccjojfebkeaaGreat
