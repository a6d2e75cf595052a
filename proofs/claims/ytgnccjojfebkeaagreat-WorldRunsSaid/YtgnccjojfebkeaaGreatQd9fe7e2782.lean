/- How many signs are put and taken; and how many must be: the walks. -/
import Derived.Test.YtgnccjojfebkeaaGreatQd7523a9f8c
import Derived.Test.YtgnccjojfebkeaaGreatQ463d8804a1
import Derived.IntWalk
import Derived.Test.YtgnccjojfebkeaaGreatQa50ddd2d9a
import Derived.Test.YtgnccjojfebkeaaGreatQ453a98ae2d
import Derived.Test.YtgnccjojfebkeaaGreatQed8dd0ae12
set_option linter.unusedVariables false
set_option linter.unusedSimpArgs false
set_option maxRecDepth 100000
set_option maxHeartbeats 4000000
namespace Go.Proofs.YtgnccjojfebkeaaGreat
open Go Go.RowKit Go.BigFrame Cp
def Q70 (o:Option St) (w:World) (e:Ending) (w':World):Prop:=match o with
 |none=>e= .returned (.tuple #[.agg #[.slice none 0 0,.slice none 0 0],.bool false])∧Ext w w'
 |some t=>∃v u,e= .returned (.tuple #[.agg #[v,u],.bool true])∧RSl RAt 3 (fun _=>True) w' v t.1∧RSl RMk 2 (fun _=>True) w' u t.2∧Ext w w'
def Q7z (H:Nat→Prop) (o:Option St) (w:World) (e:Ending) (w':World):Prop:=match o with
 |none=>e= .returned (.tuple #[.agg #[.slice none 0 0,.slice none 0 0],.bool false])∧Ext w w'
 |some t=>∃v u,e= .returned (.tuple #[.agg #[v,u],.bool true])∧RSl RAt 3 H w' v t.1∧RSl RMk 2 H w' u t.2∧Ext w w'
theorem Qqv {d:De} (h:Qat d=0):(Qbl d).length≤60:=by
 unfold Qbl;by_cases h1:d.kind=1
 ·rw[if_pos h1,Qgz];exact(Qb1 (Qge h h1).1).2.2.1
 ·rw[if_neg h1,Qgz];obtain⟨_,_,⟨n,hn,_,_⟩,_⟩:=Qfx h h1;rw[hn];simp;omega
theorem Qzh {d:De} (h1:d.kind=1):Qbl d=(Qav d.run).map (·.1):=by
 unfold Qbl;rw[if_pos h1,Qhl]
theorem Qs8 {r:Rn} {k:Nat} (hk:k<r.2.length):(Qav r)[k]?=some (Qar r.1 k,r.2.getD k 0):=by simp[Qav,hk]
theorem Za8 {p:Prop} (h:p:=by
 go_wp2_with fail
 refine bodyPost_ret (v:= .tuple #[.agg #[.slice none 0 0,.slice none 0 0],.bool false]) (by simp[results,Tryz.results53,go_sem,r0,r1]) rfl (by rw[HNN.o];exact⟨rfl,ext_set (ext_set HXF.o (by show w.heap.size≤w.heap.size+1;omega) _) (by show w.heap.size≤w.heap.size+1;omega) _⟩)):p:=h
theorem Zag {p:Prop} (h:p:=by
 go_wp2_with (first|(go_at_call 127;go_must ((with_reducible refine(HTK.o _ Qac).mono ?_);rintro e w6 ⟨v6,rfl,hv6,hx6⟩;obtain⟨a6,n6,c6,rfl⟩:=hv6.slice;obtain rfl:n6=(Qbb t.1 ms).length:=hv6.len.1;have hb6:=Qc0 HBq2.o (ext_trans Qac hx6);have q0:=hb6.c0;have q1:=hb6.c1;have qf0:=hb6.fz 0;have HR6:=Qc0 HRq.o (ext_trans Qac hx6);have HBF:=hH (show BoxIs H w.heap.size (Qbb t.1 ms,Qc9 t.2 ms) (w6.setCell ⟨w.heap.size,0,none⟩ (.slice a6 (Qbb t.1 ms).length c6)) (.slice a6 (Qbb t.1 ms).length c6) (.slice au (Qc9 t.2 ms).length cu) from Qnf hb6 hv6);have HRF:=hH (Qfr HR6 (show w.heap.size≠w.heap.size+1 by omega) hb6.sl 0 a6 (Qbb t.1 ms).length c6);have HXF:=hH (ext_set (ext_trans HXq.o (ext_trans Qac hx6)) (show w.heap.size≤w.heap.size from Nat.le_refl _) (.slice a6 (Qbb t.1 ms).length c6) (p:=⟨w.heap.size,0,none⟩));have r0:=HR6.c0;have r1:=HR6.c1;have rf0:=HR6.fz 0;have rf1:=HR6.fz 1;have hs6:=hb6.lt;have hs6r:=HR6.lt;clear hv6 hb6 HR6)))
 refine bodyPost_ret (v:= .tuple #[.agg #[.slice none 0 0,.slice none 0 0],.bool false]) (by simp[results,Tryz.results53,go_sem,r0,r1]) rfl (by rw[HNN.o];exact⟨rfl,ext_set (ext_set HXF.o (by show w.heap.size≤w.heap.size+1;omega) _) (by show w.heap.size≤w.heap.size+1;omega) _⟩)):p:=h
theorem Q9j {F G H:Nat→Prop} {w:World} {cs:List Value} {s:St} {x:Value} {l:List De} (h:RSt F w cs s) (hl:RSl RDe 7 G w x l) (hF:∀j,F j→H j) (hN:∀j,w.heap.size≤j→H j) (hs:Qpy s) (hd:∀d∈l,Qat d=0):
  Calls Tryz.prog 53 #[.agg cs.toArray,x] w (Q7z H (Qfc s l) w):=by
 have hl':RSl RDe 7 (fun j=>j<w.heap.size) w x l:=RSl.more gDe (fun _ _ hk=>hk) hl;have HL:=hH hl';obtain⟨v,u,rfl,h1,h2⟩:=h;have HA0:=hH h1;have HG0:=hH h2;obtain⟨a0,n0,c0,rfl⟩:=h1.slice;obtain⟨a1,n1,c1,rfl⟩:=h2.slice;obtain⟨a2,n2,c2,rfl⟩:=hl'.slice;obtain rfl:n2=l.length:=hl'.len.1;have hll:l.length≤9223372036854775807:=by have:=hl'.len;unfold maxLen at this;omega
 have HFS:=hH hs;have HFH:=hH hF;have HNH:=hH hN;have HD:=hH hd;clear h1 h2 hl hl' hs hd hF hN;go_enter Tryz.func53,Tryz.ntmps53;go_wp2_with fail
 refine Qad (fun wb ewb=> ?_);have HWB:=hH (xE w ewb);have HB:=hH (show BoxIs H w.heap.size s wb (.slice a0 n0 c0) (.slice a1 n1 c1) from
  ⟨by rw[ewb];go_simp,by rw[ewb];go_simp,fun o=>by rw[ewb];go_simp,by rw[ewb];exact Qra (Qrb (heap_alloc_new w _)) (ext_alloc (ext_refl _) _) sI,RSl.more gAt (fun j hj _=>HFH.o j hj) (HA0.o.ext gAt HWB.o),RSl.more gMk (fun j hj _=>HFH.o j hj) (HG0.o.ext gMk HWB.o)⟩)
 have HR:=hH (show BoxIs H (w.heap.size+1) ([],[]) wb (.slice none 0 0) (.slice none 0 0) from
  ⟨by rw[ewb];go_simp,by rw[ewb];go_simp,fun o=>by rw[ewb];go_simp,by rw[ewb];exact Qrb (by have:=heap_alloc_new (w.alloc (.cells #[.slice a0 n0 c0,.slice a1 n1 c1] 42)) (.cells #[.slice none 0 0,.slice none 0 0] 42);simpa using this),RSl.nil_ (Nat.zero_le _),RSl.nil_ (Nat.zero_le _)⟩)
 clear ewb HA0 HG0;go_loopw [6] (fun iv wr=>∃(i:Nat) (t:St) (va vu:Value),i≤l.length∧iv= .int .i64 i∧Hid (Qfc s (l.take i)=some t)∧Hid (BoxIs H w.heap.size t wr va vu)∧Hid (BoxIs H (w.heap.size+1) ([],[]) wr (.slice none 0 0) (.slice none 0 0))∧Hid (Ext w wr)) (fun iv _=>l.length-(intOf iv).toNat)
 case atStart=>exact⟨0,s,_,_,Nat.zero_le _,rfl,hH rfl,HB,HR,HWB⟩
 case round=>
  obtain⟨i,t,va,vu,hi,rfl,HT,HBX,HRX,HX⟩:=hrel;have HFT:=hH (Qko HFS.o (fun d hd=>HD.o d (List.mem_of_mem_take hd)) HT.o);by_cases hlt:i<l.length
  ·obtain⟨b,o,d,b1,m1,e1,b2,m2,e2,sx,rfl,hb,ek,hde,y0,y1,y2,y3,y4,y5,y6⟩:=Qfd HL.o hlt;have hcd:=HD.o d (List.mem_of_getElem? ek);have HMO:=hH (fun(W:World) (hx:Ext w W)=>Qo0 (gDe.ext hde hx) hcd);have hms:=Qqv hcd;obtain⟨hn1,hn2⟩:=Qtj ek HT.o;have hbr:b<wr.heap.size:=by have:=HX.o.size;omega
   have x0:=(HX.o.cells b _ hb).trans y0;have x1:=(HX.o.cells b _ hb).trans y1;have x2:=(HX.o.cells b _ hb).trans y2;have x3:=(HX.o.cells b _ hb).trans y3;have x4:=(HX.o.cells b _ hb).trans y4;have x5:=(HX.o.cells b _ hb).trans y5;have x6:=(HX.o.cells b _ hb).trans y6;by_cases hkd:d.kind=1
   ·obtain⟨hr,hq1,hq2⟩:=Qge hcd hkd;clear hq1 hq2;have hE:Qbp t d=(Qd7 t.2 t.1 (Qav d.run),t.2):=by unfold Qbp;rw[if_pos hkd]
    have hk1:(d.kind==2)=false:=by rw[hkd];rfl
    have hmd:=Qzh hkd;have hsx:d.run.2=sx.data.toList:=by
     obtain⟨_,_,_,e9,_,_,_,h9,_⟩:=hde;simp at e9;rw[←e9.2.1] at h9;obtain⟨e8,_⟩:=h9;simp at e8;rw[e8]
    have hat:∀k,k<(Qbl d).length→k<sx.size∧∃m,(Qbl d)[k]?=some m∧(Qav d.run)[k]?=some (m,sx.data.toList.getD k 0):=fun k hk=>by
     have hk':k<d.run.2.length:=by rw[hmd] at hk;simpa [Qav] using hk
     refine⟨by rw[hsx] at hk';simpa using hk',_,?_,by rw[Qs8 hk',hsx]⟩;rw[hmd,List.getElem?_map,Qs8 hk'];rfl
    have hal:(Qav d.run).length=(Qbl d).length:=by rw[hmd,List.length_map]
    have hra:=(Qd4 (Qjv hr)).2.2;have HAT:=hH hat;have HAL:=hH hal;have HRA:=hH hra;rw[hE] at hn1 hn2;have HN1:=hH hn1;have HN2:=hH hn2;clear hE hr hmd hsx hat hal hra hn1 hn2 ek hde hcd hkd;generalize hmsd:Qbl d=ms at *;generalize hats:Qav d.run=ats at *;clear hmsd hats;generalize d.kind=dk at *;generalize d.run.1.2=rc at *;generalize d.mark.2=mc at *;generalize d.many=dn at *;go_wp2_with (first|(go_at_call 124;go_must ((with_reducible refine(HMO.o _ (ext_trans HX.o Qac)).mono ?_);rintro e w3 ⟨mv,rfl,hmv,hx3⟩;obtain⟨am,nm,cm,rfl⟩:=hmv.slice;obtain rfl:nm=ms.length:=hmv.len.1;have HB3:=hH (Qc0 HBX.o (ext_trans Qac hx3));have HR3:=hH (Qc0 HRX.o (ext_trans Qac hx3));have HX3:=hH (ext_trans HX.o (ext_trans Qac hx3));have hlr:=HRX.o.lt;have HM3:=hH (show RSl RMk 2 (fun j=>w.heap.size+2≤j) w3 (.slice am ms.length cm) ms from RSl.more gMk (fun j hj _=>by first|omega|(simp at hj;omega)) hmv);clear hmv)))
    go_loopw [8] (fun kv wr=>∃(k:Nat) (va':Value),k≤ms.length∧kv= .int .i64 k∧Hid (BoxIs H w.heap.size (Qd7 t.2 t.1 (ats.take k),t.2) wr va' vu)∧Hid (BoxIs H (w.heap.size+1) ([],[]) wr (.slice none 0 0) (.slice none 0 0))∧Hid (Ext w wr)∧Hid (RSl RMk 2 (fun j=>w.heap.size+2≤j) wr (.slice am ms.length cm) ms)) (fun kv _=>ms.length-(intOf kv).toNat)
    case atStart=>exact⟨0,va,Nat.zero_le _,rfl,HB3,HR3,HX3,HM3⟩
    case round=>
     obtain⟨k,va',hk',rfl,HBq,HRq,HXq,HMq⟩:=hrel;obtain⟨aa,na,ca,rfl⟩:=HBq.o.at_.slice;obtain⟨au,nu,cu,rfl⟩:=HBq.o.go.slice;have z0:=(HXq.o.cells b _ hb).trans y0;have z3:=(HXq.o.cells b _ hb).trans y3;have p0:=HBq.o.c0;have p1:=HBq.o.c1;have pf0:=HBq.o.fz 0;have pf1:=HBq.o.fz 1;have hsq:=HXq.o.size;have hbq:b<wr.heap.size:=oM;have hwr:w.heap.size<wr.heap.size:=HBq.o.lt;by_cases hlt':k<ms.length
     ·obtain⟨hks,mm,hm1,hm2⟩:=HAT.o k hlt';obtain⟨bm,om,p,dd,ap,cp,rfl,hbm,ekm,ick,hpp,m0,m1⟩:=Qc7 HMq.o hlt';obtain rfl:mm=(p,dd):=by rw[ekm] at hm1;exact(Option.some.inj hm1).symm
      have HHG:=hH (fun(W:World) (hx:Ext wr W)=>Qht (Qc0 HBq.o hx).go (Qam (hpp.ext Qap hx) ick));have hst:=Qzz (g:=t.2) (l:=t.1) hm2;have HST:=hH hst;have HPP:=hH (fun(W:World) (hx:Ext wr W)=>hpp.ext Qap hx);have HIC:=hH ick;have hgd:=Qn3 hks;have hbmq:bm<wr.heap.size:=hbm;clear hm1 hm2 ekm ick hpp hst;cases hg:Qc5 t.2 (p,dd) with
      |true=>
       rw[hg] at HHG;have HSE:=hH (show Qd7 t.2 t.1 (ats.take (k+1))=Qd7 t.2 t.1 (ats.take k) by rw[HST.o];unfold Q8f;rw[hg,if_pos rfl]);clear hg HST;go_wp2_with fail
       refine Qad (fun W2 eW2=> ?_);have e1:=rL eW2 ⟨w.heap.size,1,none⟩ (.slice au nu cu);have e2:=rL eW2 ⟨bm,om+k * 2,none⟩ (.slice ap p.length cp);have e3:=rL eW2 ⟨bm,om+k * 2+1,none⟩ (.int .i64 dd);have zW2_0:=zE eW2 bm;have zW2_1:=zE eW2 w.heap.size;have hw2:=xE wr eW2;clear eW2;refine Qaa fol kR (fun hlater=> ?_);repeat(go_big_quiet_step ((first
         |(go_at_call 61;(with_reducible exact Qah (HHG.o _ (ext_trans hw2 (Later.ext _))))))))
       refine wpQuiet_nil ?_;rintro W3 ⟨⟨w3x,hx3⟩,rfl⟩;clear hlater;have hR3:Ext wr W3:=ext_trans hw2 hx3;have hs3:=hR3.size;clear e1 e2 e3 hx3 hw2;go_wp2_with fail
       go_roundw
       case rel=>exact⟨k+1,_,oM,by go_num,hH (by rw[HSE.o];exact Qc0 HBq.o hR3),hH (Qc0 HRq.o hR3),hH (ext_trans HXq.o hR3),hH (HMq.o.ext gMk hR3)⟩
       case measure=>simp[intOf];omega
      |false=>
       rw[hg] at HHG;have HSE:=hH (show Qd7 t.2 t.1 (ats.take (k+1))=Qh3 (Qd7 t.2 t.1 (ats.take k)) ((p,dd),sx[k]) by rw[HST.o,hgd];unfold Q8f;rw[hg,if_neg sI]);have HPA:=hH (fun(W:World) (hx:Ext wr W)=>Q12 (H:=H) (Qc0 HBq.o hx).at_ (Qm2 (HPP.o W hx) HIC.o (s:=sx[k])) (fun _ h=>h) (fun j hj=>HNH.o j (Nat.le_trans (Nat.le_add_right _ 2) hj)) (fun j hj=>HNH.o j (Nat.le_trans (Nat.le_trans HXq.o.size hx.size) hj)) (Qpb HFT.o.1.1 (fun a ha=>HRA.o a (List.mem_of_mem_take ha))).1 (Nat.le_trans (Q3o _ _ _) (by have h3:=HFT.o.2.1;rw[List.length_take];omega)));clear hg HST;go_wp2_with fail
       refine Qad (fun W2 eW2=> ?_);have e1:=rL eW2 ⟨w.heap.size,1,none⟩ (.slice au nu cu);have e2:=rL eW2 ⟨bm,om+k * 2,none⟩ (.slice ap p.length cp);have e3:=rL eW2 ⟨bm,om+k * 2+1,none⟩ (.int .i64 dd);have zW2_0:=zE eW2 bm;have zW2_1:=zE eW2 w.heap.size;have hw2:=xE wr eW2;clear eW2;refine Qaa fol kR (fun hlater=> ?_);repeat(go_big_quiet_step ((first
         |(go_at_call 61;(with_reducible exact Qah (HHG.o _ (ext_trans hw2 (Later.ext _))))))))
       refine wpQuiet_nil ?_;rintro W3 ⟨⟨w3x,hx3⟩,rfl⟩;clear hlater;have hR3:Ext wr W3:=ext_trans hw2 hx3;have hs3:=hR3.size;clear e1 e2 e3 hx3 hw2;go_wp2_with fail
       refine Qad (fun W4 eW4=> ?_);have HR4:=hH (show Ext wr W4 by rw[eW4];exact hR3);clear eW4;have hs4:=HR4.o.size;have t0:=(HR4.o.cells _ _ hwr).trans p0;have t1:=(HR4.o.cells _ _ hwr).trans p1;have tf0:=(HR4.o.frz _ _ hwr).trans pf0;have t2:=(HR4.o.cells _ _ hbmq).trans m0;have t3:=(HR4.o.cells _ _ hbmq).trans m1;have t4:=(HR4.o.cells _ _ hbq).trans z3;refine Qa4 15 fol kR (fun W hW=> ?_);subst hW;simp only[List.take_succ_cons,List.take_zero,List.drop_succ_cons,List.drop_zero];repeat(go_big_quiet_step (fail))
       refine wpQuiet_nil ?_;go_wp2_with (first|(go_at_call 126;go_must ((with_reducible refine(HPA.o _ (ext_trans HR4.o Qac)).mono ?_);rintro e w5 ⟨v5,rfl,hv5,hx5⟩;obtain⟨a5,n5,c5,rfl⟩:=hv5.slice;have HV5:=hH hv5;have HB5:=hH (Qc0 HBq.o (ext_trans (ext_trans HR4.o Qac) hx5));have HR5:=hH (Qc0 HRq.o (ext_trans (ext_trans HR4.o Qac) hx5));have HX5:=hH (ext_trans HXq.o (ext_trans (ext_trans HR4.o Qac) hx5));have HM5:=hH (HMq.o.ext gMk (ext_trans (ext_trans HR4.o Qac) hx5));have q0:=HB5.o.c0;have q1:=HB5.o.c1;have qf0:=HB5.o.fz 0;have qf1:=HB5.o.fz 1;clear hv5 hx5)))
       go_roundw
       case rel=>exact⟨k+1,_,oM,by go_num,hH (by rw[HSE.o];exact Qnf (t:=(Qd7 t.2 t.1 (ats.take k),t.2)) HB5.o HV5.o),hH (Qfr HR5.o (show w.heap.size≠w.heap.size+1 by omega) HB5.o.sl _ _ _ _),hH (ext_set HX5.o (Nat.le_refl _) _),hH (HM5.o.keep gMk (Qae Qag (fun _ h=>by have h':w.heap.size+2≤w.heap.size:=h;omega) _))⟩
       case measure=>simp[intOf];omega
     ·obtain rfl:k=ms.length:=oM;have HBF:=hH (show BoxIs H w.heap.size (Qd7 t.2 t.1 ats,t.2) wr (.slice aa na ca) (.slice au nu cu) by have:=HBq.o;rwa [List.take_of_length_le (by rw[HAL.o];exact Nat.le_refl _)] at this);have HRF:=HRq;have HXF:=HXq;have e3:=HBF.o.at_.len.1;have e4:=HBF.o.go.len.1
      (try simp only at e3 e4)
      subst e3 e4;have r0:=HRF.o.c0;have r1:=HRF.o.c1;have rf0:=HRF.o.fz 0;have rf1:=HRF.o.fz 1;by_cases g3:300<(Qd7 t.2 t.1 ats).length
      ·have HNN:=hH (HN1.o (by simp only[Qcb,Bool.or_eq_true,decide_eq_true_eq];omega));have g1:decide ((300:Int)<((Qd7 t.2 t.1 ats).length:Int))=true:=decide_eq_true oM;have g2:decide (300<(Qd7 t.2 t.1 ats).length)=true:=decide_eq_true g3;exact Za8
      ·by_cases g6:600<(t.2).length
       ·have HNN:=hH (HN1.o (by simp only[Qcb,Bool.or_eq_true,decide_eq_true_eq];omega));have g1:decide ((300:Int)<((Qd7 t.2 t.1 ats).length:Int))=false:=decide_eq_false oM;have g2:decide (300<(Qd7 t.2 t.1 ats).length)=false:=decide_eq_false g3;have g4:decide ((600:Int)<((t.2).length:Int))=true:=decide_eq_true oM;have g5:decide (600<(t.2).length)=true:=decide_eq_true g6;exact Za8
       ·have HNN:=hH (HN2.o (by simp only[Qcb,Bool.or_eq_false_iff,decide_eq_false_iff_not];omega));have g1:decide ((300:Int)<((Qd7 t.2 t.1 ats).length:Int))=false:=decide_eq_false oM;have g2:decide (300<(Qd7 t.2 t.1 ats).length)=false:=decide_eq_false g3;have g4:decide ((600:Int)<((t.2).length:Int))=false:=decide_eq_false oM;have g5:decide (600<(t.2).length)=false:=decide_eq_false g6;go_wp2_with fail
        go_roundw
        case rel=>exact⟨i+1,_,_,_,oM,by go_num,HNN,HBF,HRF,HXF⟩
        case measure=>simp[intOf];omega
   ·obtain⟨hk2,hq⟩:=Qfx hcd hkd;clear hq;have hE:Qbp t d=(Qbb t.1 (Qbl d),Qc9 t.2 (Qbl d)):=by unfold Qbp;rw[if_neg hkd]
    have hk1:(d.kind==2)=true:=by rw[hk2];rfl
    rw[hE] at hn1 hn2;have HN1:=hH hn1;have HN2:=hH hn2;clear hE hn1 hn2 ek hde hcd hkd hk2;generalize hmsd:Qbl d=ms at *;clear hmsd;generalize d.kind=dk at *;generalize d.run.1.2=rc at *;generalize d.mark.2=mc at *;generalize d.many=dn at *;go_wp2_with (first|(go_at_call 124;go_must ((with_reducible refine(HMO.o _ (ext_trans HX.o Qac)).mono ?_);rintro e w3 ⟨mv,rfl,hmv,hx3⟩;obtain⟨am,nm,cm,rfl⟩:=hmv.slice;obtain rfl:nm=ms.length:=hmv.len.1;have HB3:=hH (Qc0 HBX.o (ext_trans Qac hx3));have HR3:=hH (Qc0 HRX.o (ext_trans Qac hx3));have HX3:=hH (ext_trans HX.o (ext_trans Qac hx3));have hlr:=HRX.o.lt;have HM3:=hH (show RSl RMk 2 (fun j=>w.heap.size+2≤j) w3 (.slice am ms.length cm) ms from RSl.more gMk (fun j hj _=>by first|omega|(simp at hj;omega)) hmv);clear hmv)))
    go_loopw [8] (fun kv wr=>∃(k:Nat) (vu':Value),k≤ms.length∧kv= .int .i64 k∧Hid (BoxIs H w.heap.size (t.1,Qc9 t.2 (ms.take k)) wr va vu')∧Hid (BoxIs H (w.heap.size+1) ([],[]) wr (.slice none 0 0) (.slice none 0 0))∧Hid (Ext w wr)∧Hid (RSl RMk 2 (fun j=>w.heap.size+2≤j) wr (.slice am ms.length cm) ms)) (fun kv _=>ms.length-(intOf kv).toNat)
    case atStart=>exact⟨0,vu,Nat.zero_le _,rfl,HB3,HR3,HX3,HM3⟩
    case round=>
     obtain⟨k,vu',hk',rfl,HBq,HRq,HXq,HMq⟩:=hrel;obtain⟨aa,na,ca,rfl⟩:=HBq.o.at_.slice;obtain⟨au,nu,cu,rfl⟩:=HBq.o.go.slice;have z0:=(HXq.o.cells b _ hb).trans y0;have z3:=(HXq.o.cells b _ hb).trans y3;have p0:=HBq.o.c0;have p1:=HBq.o.c1;have pf0:=HBq.o.fz 0;have pf1:=HBq.o.fz 1;have hsq:=HXq.o.size;have hbq:b<wr.heap.size:=oM;have hwr:w.heap.size<wr.heap.size:=HBq.o.lt;by_cases hlt':k<ms.length
     ·obtain⟨bm,om,p,dd,ap,cp,rfl,hbm,ekm,ick,hpp,m0,m1⟩:=Qc7 HMq.o hlt';have HEX:=hH (Qzy (l:=t.2) ekm);have HPG:=hH (fun(W:World) (hx:Ext wr W)=>Qzw (H:=H) (Qc0 HBq.o hx).go (Qam (hpp.ext Qap hx) ick) (fun _ h=>h) (fun j hj=>HNH.o j (Nat.le_trans (Nat.le_add_right _ 2) hj)) (fun j hj=>HNH.o j (Nat.le_trans (Nat.le_trans HXq.o.size hx.size) hj)) (Qgj HFT.o.1.2.1) (Nat.le_trans (Qpa _ _) (by have h3:=HFT.o.2.2;rw[List.length_take];omega)));have hbmq:bm<wr.heap.size:=hbm;clear ekm ick hpp;go_wp2_with fail
      refine Qa4 6 fol kR (fun W hW=> ?_);subst hW;simp only[List.take_succ_cons,List.take_zero,List.drop_succ_cons,List.drop_zero];repeat(go_big_quiet_step (fail))
      refine wpQuiet_nil ?_;go_wp2_with (first|(go_at_call 125;go_must ((with_reducible refine(HPG.o _ Qac).mono ?_);rintro e w5 ⟨v5,rfl,hv5,hx5⟩;obtain⟨a5,n5,c5,rfl⟩:=hv5.slice;have HV5:=hH hv5;have HB5:=hH (Qc0 HBq.o (ext_trans Qac hx5));have HR5:=hH (Qc0 HRq.o (ext_trans Qac hx5));have HX5:=hH (ext_trans HXq.o (ext_trans Qac hx5));have HM5:=hH (HMq.o.ext gMk (ext_trans Qac hx5));have q0:=HB5.o.c0;have q1:=HB5.o.c1;have qf0:=HB5.o.fz 0;have qf1:=HB5.o.fz 1;clear hv5 hx5)))
      go_roundw
      case rel=>exact⟨k+1,_,oM,by go_num,hH (by rw[HEX.o];exact Q5e (t:=(t.1,Qc9 t.2 (ms.take k))) HB5.o HV5.o),hH (Qfr HR5.o (show w.heap.size≠w.heap.size+1 by omega) HB5.o.sl _ _ _ _),hH (ext_set HX5.o (Nat.le_refl _) _),hH (HM5.o.keep gMk (Qae Qag (fun _ h=>by have h':w.heap.size+2≤w.heap.size:=h;omega) _))⟩
      case measure=>simp[intOf];omega
     ·obtain rfl:k=ms.length:=oM;have HTK:=hH (fun(W:World) (hx:Ext wr W)=>Q4a (H:=H) (Qc0 HBq.o hx).at_ (HMq.o.ext gMk hx) (fun _ h=>h) (fun j hj=>HNH.o j (Nat.le_trans (Nat.le_trans HXq.o.size hx.size) hj)) HFT.o.2.1);have HBq2:=hH (show BoxIs H w.heap.size (t.1,Qc9 t.2 ms) wr (.slice aa na ca) (.slice au nu cu) by have:=HBq.o;rwa [List.take_of_length_le (Nat.le_refl _)] at this);obtain rfl:nu=(Qc9 t.2 ms).length:=HBq2.o.go.len.1;by_cases g3:300<(Qbb t.1 ms).length
      ·have HNN:=hH (HN1.o (by simp only[Qcb,Bool.or_eq_true,decide_eq_true_eq];omega));have g1:decide ((300:Int)<((Qbb t.1 ms).length:Int))=true:=decide_eq_true oM;have g2:decide (300<(Qbb t.1 ms).length)=true:=decide_eq_true g3;exact Zag
      ·by_cases g6:600<(Qc9 t.2 ms).length
       ·have HNN:=hH (HN1.o (by simp only[Qcb,Bool.or_eq_true,decide_eq_true_eq];omega));have g1:decide ((300:Int)<((Qbb t.1 ms).length:Int))=false:=decide_eq_false oM;have g2:decide (300<(Qbb t.1 ms).length)=false:=decide_eq_false g3;have g4:decide ((600:Int)<((Qc9 t.2 ms).length:Int))=true:=decide_eq_true oM;have g5:decide (600<(Qc9 t.2 ms).length)=true:=decide_eq_true g6;exact Zag
       ·have HNN:=hH (HN2.o (by simp only[Qcb,Bool.or_eq_false_iff,decide_eq_false_iff_not];omega));have g1:decide ((300:Int)<((Qbb t.1 ms).length:Int))=false:=decide_eq_false oM;have g2:decide (300<(Qbb t.1 ms).length)=false:=decide_eq_false g3;have g4:decide ((600:Int)<((Qc9 t.2 ms).length:Int))=false:=decide_eq_false oM;have g5:decide (600<(Qc9 t.2 ms).length)=false:=decide_eq_false g6;go_wp2_with (first|(go_at_call 127;go_must ((with_reducible refine(HTK.o _ Qac).mono ?_);rintro e w6 ⟨v6,rfl,hv6,hx6⟩;obtain⟨a6,n6,c6,rfl⟩:=hv6.slice;obtain rfl:n6=(Qbb t.1 ms).length:=hv6.len.1;have hb6:=Qc0 HBq2.o (ext_trans Qac hx6);have q0:=hb6.c0;have q1:=hb6.c1;have qf0:=hb6.fz 0;have HR6:=Qc0 HRq.o (ext_trans Qac hx6);have HBF:=hH (show BoxIs H w.heap.size (Qbb t.1 ms,Qc9 t.2 ms) (w6.setCell ⟨w.heap.size,0,none⟩ (.slice a6 (Qbb t.1 ms).length c6)) (.slice a6 (Qbb t.1 ms).length c6) (.slice au (Qc9 t.2 ms).length cu) from Qnf hb6 hv6);have HRF:=hH (Qfr HR6 (show w.heap.size≠w.heap.size+1 by omega) hb6.sl 0 a6 (Qbb t.1 ms).length c6);have HXF:=hH (ext_set (ext_trans HXq.o (ext_trans Qac hx6)) (show w.heap.size≤w.heap.size from Nat.le_refl _) (.slice a6 (Qbb t.1 ms).length c6) (p:=⟨w.heap.size,0,none⟩));have r0:=HR6.c0;have r1:=HR6.c1;have rf0:=HR6.fz 0;have rf1:=HR6.fz 1;have hs6:=hb6.lt;have hs6r:=HR6.lt;clear hv6 hb6 HR6)))
        go_roundw
        case rel=>exact⟨i+1,_,_,_,oM,by go_num,HNN,HBF,HRF,HXF⟩
        case measure=>simp[intOf];omega
  ·obtain rfl:i=l.length:=oM;have HTT:=hH (show Qfc s l=some t by have:=HT.o;rwa [List.take_of_length_le (Nat.le_refl _)] at this);obtain⟨aa,na,ca,rfl⟩:=HBX.o.at_.slice;obtain⟨au,nu,cu,rfl⟩:=HBX.o.go.slice;have p0:=HBX.o.c0;have p1:=HBX.o.c1;have r0:=HRX.o.c0;have r1:=HRX.o.c1;have rf0:=HRX.o.fz 0;have rf1:=HRX.o.fz 1;go_wp2_with fail
   refine bodyPost_ret (v:= .tuple #[.agg #[.slice aa na ca,.slice au nu cu],.bool true]) (by simp[results,Tryz.results53,go_sem,r0,r1]) rfl (by
    rw[HTT.o];have hb1:=Qfr HBX.o (show w.heap.size+1≠w.heap.size by omega) HRX.o.sl 0 aa na ca;have hr1:=Qje HRX.o.sl ⟨w.heap.size+1,0,none⟩ aa na ca;have hb2:=Qfr hb1 (show w.heap.size+1≠w.heap.size by omega) hr1 1 au nu cu;exact⟨_,_,rfl,hb2.at_,hb2.go,ext_set (ext_set HX.o (by show w.heap.size≤w.heap.size+1;omega) _) (by show w.heap.size≤w.heap.size+1;omega) _⟩)
theorem Qxb {F G:Nat→Prop} {w:World} {cs:List Value} {s:St} {x:Value} {l:List De} (h:RSt F w cs s) (hl:RSl RDe 7 G w x l) (hs:Qpy s) (hd:∀d∈l,Qat d=0):
  Calls Tryz.prog 53 #[.agg cs.toArray,x] w (Q70 (Qfc s l) w):=by
 refine(Q9j (H:=fun _=>True) h hl (fun _ _=>trivial) (fun _ _=>trivial) hs hd).mono fun e w' he=> ?_
 unfold Q70;unfold Q7z at he;exact he
theorem Zam {p:Prop} (h:p:=by
 clear h2 HEK;go_wp2_with (first|(go_at_call 124;go_must ((with_reducible refine(HMO.o _ Qac).mono ?_);rintro e w4 ⟨v4,rfl,hv4,hx4⟩;obtain⟨a4,n4,c4,rfl⟩:=hv4.slice;have HV4:=hH hv4;have HX4:=xY wr hx4;clear hv4 hx4))|(go_at_call 83;go_must ((with_reducible refine(Qgp (HV4.o.ext gMk Qac) HMR.o HML.o).mono ?_);rintro e w5 ⟨rfl,hx5⟩;have HX5:=hH (show Ext wr w5 from ext_trans HX4.o (ext_trans Qac hx5));have x0:=HX5.o.cl w.heap.size 3 (.slice (some ⟨b,o,none⟩) n.deeds.length c2);rw[HCX.o];clear hx5)))
 go_roundw
 case rel=>exact⟨k+1,hlt,by go_num,by rw[HE.o],hH (ext_trans HX.o HX5.o),x0,Nat.lt_of_lt_of_le hz HX5.o.size⟩
 case measure=>simp[intOf];omega):p:=h
theorem Qsg {F:Nat→Prop} {w:World} {cs:List Value} {n:No} {site:Int} (h:RNo F w cs n) (hn:Qa0 n=0):
  Calls Tryz.prog 84 #[.agg cs.toArray,.int .i64 site] w fun e w'=>e= .returned (.int .i64 (Qhz site n.deeds))∧Ext w w':=by
 obtain⟨v,u,rfl,_,_,h1,h2⟩:=h;have HL:=hH (fun(W:World) (hx:Ext w W)=>h2.ext gDe hx);obtain⟨a1,n1,c1,rfl⟩:=h1.slice;obtain⟨a2,n2,c2,rfl⟩:=h2.slice;obtain rfl:n2=n.deeds.length:=h2.len.1;have hN:=checkN_right.1 hn;have hfew:=hN.few;have HD:=hH hN.deeds;clear h1 h2 hN hn;go_enter Tryz.func84,Tryz.ntmps84;go_wp2_with fail
 go_loopw [5,6] (fun nv iv wr=>∃k:Nat,k≤n.deeds.length∧iv= .int .i64 k∧nv= .int .i64 (Qik (Qps site) 0 (n.deeds.take k))∧Hid (Ext w wr)∧wr.cell? ⟨w.heap.size,3,none⟩=some (.slice a2 n.deeds.length c2)∧w.heap.size<wr.heap.size) (fun _ iv _=>n.deeds.length-(intOf iv).toNat)
 case atStart=>exact⟨0,Nat.zero_le _,rfl,rfl,hH Qac,gS,sI⟩
 case round=>
  obtain⟨k,hk,rfl,rfl,HX,e3,hz⟩:=hrel;by_cases hlt:k<n.deeds.length
  ·obtain⟨b,o,d,b1,m1,e1,b2,m2,e2,s,rfl,hb,ek,hde,u0,u1,u2,u3,u4,u5,u6⟩:=Qfd (HL.o wr HX.o) hlt;have hcd:=HD.o d (List.mem_of_getElem? ek);have HMO:=hH (fun(W:World) (hx:Ext wr W)=>Qo0 (gDe.ext hde hx) hcd);have HMR:=hH (Qmx hcd);have HML:=hH (show(Qbl d).length≤1000000 from Nat.le_trans (Qqv hcd) oM);have HCX:=hH (Q5h (site:=site) hcd);have HEK:=hH (Qte (site:=site) ek);clear hcd ek hde hb;generalize Qik (Qps site) 0 (n.deeds.take k)=mx at *;generalize Qps site d=cd at *;by_cases h2:mx<cd
   ·have t2:decide (mx<cd)=true:=decide_eq_true h2;have HE:=hH (show cd=Qik (Qps site) 0 (n.deeds.take (k+1)) by rw[HEK.o];unfold Qk4;rw[if_pos h2]);exact Zam
   ·have t2:decide (mx<cd)=false:=decide_eq_false h2;have HE:=hH (show mx=Qik (Qps site) 0 (n.deeds.take (k+1)) by rw[HEK.o];unfold Qk4;rw[if_neg h2]);exact Zam
  ·have hke:n.deeds.take k=n.deeds:=List.take_of_length_le oM;rw[hke];go_wp2_with fail
   go_ret;exact⟨rfl,HX.o⟩
end Go.Proofs.YtgnccjojfebkeaaGreat
