/- What is wrong with a desk, by the document. -/
import Derived.Test.YtgnccjojfebkeaaGreatQ5e94ee24c9
import Derived.Test.YtgnccjojfebkeaaGreatQd9fe7e2782
import Derived.Test.YtgnccjojfebkeaaGreatQ453a98ae2d
import Derived.Test.YtgnccjojfebkeaaGreatQa70fadfe36
import Derived.Test.YtgnccjojfebkeaaGreatQed8dd0ae12
import Derived.Test.YtgnccjojfebkeaaGreatQb12723dfd3
import Derived.Deep.RegionHeld3
set_option linter.unusedVariables false
set_option linter.unusedSimpArgs false
set_option maxRecDepth 100000
set_option maxHeartbeats 4000000
namespace Go.Proofs.YtgnccjojfebkeaaGreat
open Go Go.RowKit Go.BigFrame Cp
theorem Q6u {w0 w':World} {g e base:Nat} {F:Nat→Prop} (hx:Ext (w0.alloc (.cells #[] e)) w') (hg:w0.heap.size=g) (hb:base≤g):OSl RNo 4 e base F w' (.slice (some ⟨g,0,none⟩) 0 0) []:=Qai gNo (Qg1 hg hb) hx
theorem Q2e (s:Int) (l:List At) (g:List Mk):Qik (Qgu s) 0 (l.map (·.1)++g)=Qrx s (Qrw s 0 l) g:=by unfold Qrx Qrw;rw[Qxq];unfold Qik;rw[List.foldl_map]
theorem Vdg {a b:Nat} (h:a≤300) (k:b≤600):(a+b) * 32≤140737488355328:=oM
theorem Vdh {a b:Nat} (h:a≤300) (k:b≤600):a+b≤maxLen:=Nat.le_trans (by omega:a+b≤1001) (by unfold maxLen;decide)
theorem Vdk {a:Nat} (h:a≤40):([]:List No).length+a≤maxLen:=Nat.le_trans (by simp;omega:([]:List No).length+a≤1001) (by unfold maxLen;decide)
theorem Vdi {a:Nat} (h:a≤40):(([]:List No).length+a) * 64≤140737488355328:=sP
theorem Vdl {a b:Nat} (h:a≤40∧b≤500):a+b≤maxLen:=Nat.le_trans (by omega:a+b≤1001) (by unfold maxLen;decide)
theorem Vdj {a b:Nat} (h:a≤40∧b≤500):(a+b) * 64≤140737488355328:=oM
theorem Q7t {x f:Int} {n k:Nat} (h1:0≤x) (h2:x≤500) (h3:n≤500) (h4:k≤n) (h:x-(n:Int)+1=f):wrap64 (wrap64 (wrap64 (x-(n:Int))+1)+(k:Int))=f+(k:Int):=by
 rw[IntWalk.wrap64_in (x-(n:Int)) oM,IntWalk.wrap64_in (x-(n:Int)+1) oM,h,IntWalk.wrap64_in _ oM]
theorem Qih {p:Prop} (h:p:=by
 go_enter Tryz.func28,Tryz.ntmps28;go_wp2_with (first
  |(go_at_call 66;go_must ((with_reducible refine(Qas _ _ _ _).mono ?_);rintro e w' ⟨rfl,rfl⟩;skip))
  |(go_at_call 79;go_must ((with_reducible refine(HST.o _ Qac).mono ?_);rintro e w3 ⟨rfl,hx3⟩;have HX3:=xY w hx3;obtain⟨c3_0,c3_1,c3_2,c3_3,c3_4,c3_5,c3_6⟩:=cC7 hx3 w.heap.size (.int .i64 st) (.slice a1 n1 k1) (.slice a2 n2 k2) (.slice a3 n3 k3) (.slice a4 wt.length k4) (.int .i64 ck) (.slice a5 ou.length k5);have hb3:w.heap.size<w3.heap.size:=(by have:=hx3.size;(try simp at this);omega);clear hx3))
  |(go_at_call 80;go_must ((with_reducible refine(HSE.o _ (ext_trans HX3.o Qac)).mono ?_);rintro e w4 ⟨rfl,rfl⟩;skip)))
 first
 |(
   clear zqa;go_ret;exact⟨by rw[HR.o];rfl,Qac⟩
   done)
 |(
   clear zqb;go_ret;exact⟨by rw[HR.o];rfl,ext_trans HX3.o Qac⟩
   done)):p:=h
theorem Zae {p:Prop} (h:p:=by
 refine Qad (fun W2 eW2=> ?_);obtain⟨e0,e1,e2,e3,e4,e5,e6⟩:=rR7 eW2 w.heap.size (.int .i64 (j:Nat)) (.slice a1 sa.length k1) (.slice a2 sg.length k2) (.slice (some ⟨b,o,none⟩) 5 k3) (.slice (some ⟨g,q,none⟩) wt.length k4) (.int .i64 ck) (.slice a5 ou.length k5);obtain⟨f0,f1,f2,f3⟩:=rR4 eW2 wr.heap.size (.int .i64 (i:Nat)) (.int .i64 nn) (.slice (some ⟨b5,o5,none⟩) 5 k1') (.slice b2 m2 k2');have x1:=rL eW2 ⟨b,o+i,none⟩ (.int .i64 y);have x2:=rL eW2 ⟨b,o+j,none⟩ (.int .i64 xj);have x3:=rL eW2 ⟨b5,o5+j,none⟩ (.int .i64 yj);have zW2_0:=zE eW2 w.heap.size;have zW2_1:=zE eW2 wr.heap.size;have zW2_2:=zE eW2 b;have zW2_3:=zE eW2 g;have zW2_4:=zE eW2 b5;have hw2:=xE wr eW2;clear eW2;refine Qaa fol kR (fun hlater=> ?_);repeat(go_big_quiet_step ((fail)))
 refine wpQuiet_nil ?_;rintro w3 ⟨⟨w3x,hx3⟩,rfl⟩;clear hlater;go_wp2_with fail
 go_ret;exact⟨by rw[HR.o];rfl,ext_trans HXW.o (ext_trans hw2 hx3)⟩):p:=h
theorem Zab {p:Prop} (h:p:=by
 obtain⟨e0,e1,e2,e3,e4,e5,e6⟩:=rR7 eW2 w.heap.size (.int .i64 (j:Nat)) (.slice a1 sa.length k1) (.slice a2 sg.length k2) (.slice (some ⟨b,o,none⟩) 5 k3) (.slice (some ⟨g,q,none⟩) wt.length k4) (.int .i64 ck) (.slice a5 ou.length k5);obtain⟨f0,f1,f2,f3⟩:=rR4 eW2 wr.heap.size (.int .i64 (i:Nat)) (.int .i64 nn) (.slice (some ⟨b5,o5,none⟩) 5 k1') (.slice b2 m2 k2');have x1:=rL eW2 ⟨b,o+i,none⟩ (.int .i64 y);have x2:=rL eW2 ⟨b,o+j,none⟩ (.int .i64 xj);have x3:=rL eW2 ⟨b5,o5+j,none⟩ (.int .i64 yj);have p0:=rL eW2 ⟨g,q+(k-1) * 4,none⟩ (.int .i64 pn.site);have p1:=rL eW2 ⟨g,q+(k-1) * 4+1,none⟩ (.int .i64 pn.number);have p2:=rL eW2 ⟨g,q+(k-1) * 4+2,none⟩ (.slice b3 m3 k3');have p3:=rL eW2 ⟨g,q+(k-1) * 4+3,none⟩ (.slice b4 m4 k4');have zW2_0:=zE eW2 w.heap.size;have zW2_1:=zE eW2 wr.heap.size;have zW2_2:=zE eW2 b;have zW2_3:=zE eW2 g;have zW2_4:=zE eW2 b5;have hw2:=xE wr eW2;clear eW2;refine Qaa fol kR (fun hlater=> ?_);repeat(go_big_quiet_step ((first
   |(go_at_call 81;(with_reducible exact Qah (HOR.o _ (ext_trans hw2 (Later.ext _))))))))
 refine wpQuiet_nil ?_;rintro w3 ⟨⟨w3x,hx3⟩,rfl⟩;clear hlater;go_wp2_with fail
 go_ret;exact⟨by rw[HR.o];rfl,ext_trans HXW.o (ext_trans hw2 hx3)⟩):p:=h
theorem Qke {F:Nat→Prop} {w:World} {cs:List Value} {d:Dk} (h:RDk F w cs d):
  Calls Tryz.prog 28 #[.agg cs.toArray] w fun e w'=>e= .returned (.int .i64 (Qaq d))∧Ext w w':=by
 obtain⟨va,vg,vs,vw,vo,rfl,_,ha,hg,hq,hw,_,ho⟩:=h;obtain⟨st,⟨sa,sg⟩,sn,wt,ck,ou⟩:=d;simp only at ha hg hq hw ho ⊢;have HST:=hH (fun(W:World) (hx:Ext w W)=>Qjm (Qh1 (ha.ext gAt hx) (hg.ext gMk hx)));have HSE:=hH (fun(W:World) (hx:Ext w W)=>(Qru (hq.ext Qd6 hx)));have HA:=hH (fun(W:World) (hx:Ext w W)=>ha.ext gAt hx);have HG:=hH (fun(W:World) (hx:Ext w W)=>hg.ext gMk hx);have HQ:=hH (fun(W:World) (hx:Ext w W)=>hq.ext Qd6 hx);have HWT:=hH (fun(W:World) (hx:Ext w W)=>hw.ext gNo hx);have HOU:=hH (fun(W:World) (hx:Ext w W)=>ho.ext gNo hx);obtain⟨a1,n1,k1,rfl⟩:=ha.slice;obtain⟨a2,n2,k2,rfl⟩:=hg.slice;obtain⟨a3,n3,k3,rfl⟩:=hq.slice;obtain⟨a4,n4,k4,rfl⟩:=hw.slice;obtain⟨a5,n5,k5,rfl⟩:=ho.slice;obtain rfl:n4=wt.length:=hw.len.1;obtain rfl:n5=ou.length:=ho.len.1;cases g1:inB st 0 4 with
 |false=>
  have HR:=hH (show Qaq ⟨st,(sa,sg),sn,wt,ck,ou⟩=3 by rw[Qed (by rw[Qj4 g1];decide),Qj4 g1]);clear ha hg hq hw ho;have zqa:=trivial;exact Qih
 |true=>
  by_cases g2:Qax (sa,sg)=0
  ·by_cases g3:Qbx sn=0
   ·by_cases g4:40<wt.length∨500<ou.length
    ·have HR:=hH (show Qaq ⟨st,(sa,sg),sn,wt,ck,ou⟩=2 by rw[Qed (by rw[Qj2 g1 g2 g3 g4];decide),Qj2 g1 g2 g3 g4]);rw[g2] at HST;rw[g3] at HSE;clear g2 g3 ha hg hq hw ho;by_cases g5:40<wt.length
     ·have t1:decide ((40:Int)<(wt.length:Int))=true:=decide_eq_true oM;clear g4 g5;have zqb:=trivial;exact Qih
     ·have t1:decide ((40:Int)<(wt.length:Int))=false:=decide_eq_false oM;have t2:decide ((500:Int)<(ou.length:Int))=true:=decide_eq_true oM;clear g4 g5;have zqb:=trivial;exact Qih
    ·have HO4:=hH (show wt.length≤40∧ou.length≤500 from⟨oM,oM⟩);have HPK:=hH (Qo5 (d:=⟨st,(sa,sg),sn,wt,ck,ou⟩) g1 g2 g3 g4);have HFS:=hH (checkS_fit.1 g2);have HC5:=hH g3;have hck5:=checkI_iff.1 g3;have hsi:=inB_iff.1 g1;have t1:decide ((40:Int)<(wt.length:Int))=false:=decide_eq_false oM;have t2:decide ((500:Int)<(ou.length:Int))=false:=decide_eq_false oM;rw[g2] at HST;rw[g3] at HSE;clear g2 g3 g4;obtain⟨j,rfl⟩:∃j:Nat,st=(j:Int):=⟨st.toNat,oM⟩;have hj5:j<5:=oM;obtain rfl:n3=5:=hq.len.1.trans hck5.1;obtain rfl:n1=sa.length:=ha.len.1;obtain rfl:n2=sg.length:=hg.len.1;obtain⟨b,o,xj,ea,hbw,e1,_,cj0⟩:=Qdb hq hj5;subst ea;have HXJ:=hH (show xj=atI sn j from Qe2 e1);have hxb:=hck5.2 j hj5;rw[←HXJ.o] at hxb;have HXB:=hH hxb;obtain⟨f,hf⟩:∃f:Int,xj-(ou.length:Int)+1=f:=⟨_,rfl⟩;have HF:=hH (show Qzr (j:Int) f ou=Qpw ⟨(j:Int),(sa,sg),sn,wt,ck,ou⟩ by rw[←hf,HXJ.o];rfl);have HFE:=hH hf;obtain⟨i0,hi0,hz0,hz1',hz2⟩:=info_parts Qfg;have HJ:=hH hi0;have HZ0:=hH hz0;have HZ1:=hH hz1';have HZ2:=hH hz2;obtain⟨i1,hi1,hy0,hy1,hy2⟩:=info_parts Ql3;have HJ1:=hH hi1;have HY0:=hH hy0;have HY1:=hH hy1;have HY2:=hH hy2;have HLA:=hH (show sa.length≤300 from HFS.o.2.1);have HCM:=hH (show∀m∈sa.map (·.1)++sg,Qaf m=0 from fun m hm=>by
      rcases List.mem_append.1 hm with hm|hm
      ·obtain⟨a,ha,rfl⟩:=List.mem_map.1 hm;exact(HFS.o.1.1.2 a ha).1
      ·exact HFS.o.1.2.2.1 m hm)
     have HLG2:=hH (show sg.length≤600 from HFS.o.2.2);have HLN:=hH (show(sa.map (·.1)++sg).length≤1000000 from by
      have h1:sa.length≤300:=HFS.o.2.1;have h2:sg.length≤600:=HFS.o.2.2;rw[List.length_append,List.length_map];omega)
     clear hi1 hy0 hy1 hy2;clear hi0 hz0 hz1' hz2 ha hg hq hw ho hck5 e1 hxb hf;go_enter Tryz.func28,Tryz.ntmps28;go_upto_region 10 with(first|(go_at_call 66;go_must ((with_reducible refine(Qas _ _ _ _).mono ?_);rintro e w' ⟨rfl,rfl⟩;skip))|(go_at_call 79;go_must ((with_reducible refine(HST.o _ Qac).mono ?_);rintro e w3 ⟨rfl,hx3⟩;have HX3:=xY w hx3;obtain⟨c3_0,c3_1,c3_2,c3_3,c3_4,c3_5,c3_6⟩:=cC7 hx3 w.heap.size (.int .i64 (j:Nat)) (.slice a1 sa.length k1) (.slice a2 sg.length k2) (.slice (some ⟨b,o,none⟩) 5 k3) (.slice a4 wt.length k4) (.int .i64 ck) (.slice a5 ou.length k5);have hb3:w.heap.size<w3.heap.size:=(by have:=hx3.size;(try simp at this);omega);clear hx3))|(go_at_call 80;go_must ((with_reducible refine(HSE.o _ (ext_trans HX3.o Qac)).mono ?_);rintro e w4 ⟨rfl,rfl⟩;skip)))
     refine Qad (fun W5 eW5=> ?_);obtain⟨e0,e1,e2,e3,e4,e5,e6⟩:=rR7 eW5 w.heap.size (.int .i64 (j:Nat)) (.slice a1 sa.length k1) (.slice a2 sg.length k2) (.slice (some ⟨b,o,none⟩) 5 k3) (.slice a4 wt.length k4) (.int .i64 ck) (.slice a5 ou.length k5);have HX5:=hH (show Ext w W5 by rw[eW5];exact ext_trans HX3.o Qac);have z5:w.heap.size<W5.heap.size:=World.block_lt_of_cell? _ _ e0;have HWB:=hH (fun(W:World) (hx:Ext W5 W)=>(RSl.more gNo (F:=F) (G:=fun j=>j<W5.heap.size) (fun _ _ h=>h) (HWT.o W5 HX5.o)).ext gNo hx);have HOB:=hH (fun(W:World) (hx:Ext W5 W)=>(RSl.more gNo (F:=F) (G:=fun j=>j<W5.heap.size) (fun _ _ h=>h) (HOU.o W5 HX5.o)).ext gNo hx);clear eW5 c3_0 c3_1 c3_2 c3_3 c3_4 c3_5 c3_6 HX3 t1 t2;go_region_held3 (fun W=>W.cell? ⟨w.heap.size,4,none⟩=some (.slice a4 wt.length k4)∧W.cell? ⟨w.heap.size,6,none⟩=some (.slice a5 ou.length k5)) (first|(with_reducible exact⟨e4,e6⟩)|(with_reducible exact⟨(HX9.o.cells _ _ z5).trans e4,(HX9.o.cells _ _ z5).trans e6⟩)|(with_reducible exact⟨(HX8.o.cells _ _ z5).trans e4,(HX8.o.cells _ _ z5).trans e6⟩)|go_keep|(refine⟨?_,?_⟩<;>go_simp)) (first|((refine Qa7 gNo rfl (.tmp 40) (.tmp 42) 23 rfl W5.heap.size 48 i0 _ 4 64 Tryz.underlying23 HJ.o HZ0.o HZ1.o HZ2.o rfl oM (F:=fun _=>True) (G:=fun j=>j<W5.heap.size) _ [] rfl (Q6u Qac (by first|rfl|simp) ltA) (.slice a4 wt.length k4) wt rfl (HWB.o _ Qac) Qei (fun j hj _=>⟨trivial,Qo1 (by have hj':j<W5.heap.size:=hj;first|omega|(simp<;>omega))⟩) (Vdk HO4.o.1) (Vdi HO4.o.1) ltA ?_);intro v8 w8 hown8 hg8 hat8;have HX8:=hH (show Ext W5 w8 from Qao (show Ext W5 _ from Qac) hg8 (fun j hj=>(by have:=Qm1 hj;(try simp at this);omega)));have hs8:W5.heap.size≤w8.heap.size:=HX8.o.size;obtain⟨a8,n8,c8,rfl⟩:=Qab hown8;have HOL8:=hH (Qak hown8);have HO8:=hH (show OSl RNo 4 48 W5.heap.size (fun _=>True) w8 (.slice a8 n8 c8) wt from hown8);clear hg8 hat8 hown8)|((refine Qa7 gNo rfl (.tmp 43) (.tmp 45) 23 rfl W5.heap.size 48 i0 _ 4 64 Tryz.underlying23 HJ.o HZ0.o HZ1.o HZ2.o rfl oM (F:=fun _=>True) (G:=fun j=>j<W5.heap.size) (.slice a8 n8 c8) wt rfl (Qai gNo HO8.o Qac) (.slice a5 ou.length k5) ou rfl (HOB.o _ (ext_trans HX8.o Qac)) Qei (fun j hj _=>⟨trivial,fun e=>(by have h1:=(HOL8.o j e.symm).1;have hj':j<W5.heap.size:=hj;omega)⟩) (Vdl HO4.o) (Vdj HO4.o) ltA ?_);intro v9 w9 hown9 hg9 hat9;obtain⟨a9,n9,c9,rfl⟩:=Qab hown9;have HX9:=hH (show Ext W5 w9 from Qao (ext_trans HX8.o Qac) hg9 (fun j hj=>(HOL8.o j hj).1));have HO9:=hH (show OSl RNo 4 48 W5.heap.size (fun _=>True) w9 (.slice a9 n9 c9) (wt++ou) from hown9);clear hg9 hat9 hown9))
     have HO:=hH (Qaz gNo HO9.o (G:=fun _=>True) (fun _ _ _=>trivial) (fun _ _=>trivial));obtain rfl:n9=(wt++ou).length:=(Qa2 HO9.o).1;have HMW:=hH (fun(n:No) (h:n∈wt)=>List.mem_append_left ou h);have HMO:=hH (fun(n:No) (h:n∈ou)=>List.mem_append_right wt h);have HAL:=hH (show(wt++ou).length≤1000 by rw[List.length_append];have:=HO4.o;omega);have HLK:=hH (show Qoi (j:Int) (Qrx (j:Int) (Qrw (j:Int) 0 sa) sg) (wt++ou)=Qdv ⟨(j:Int),(sa,sg),sn,wt,ck,ou⟩ from rfl);generalize wt++ou=al at *;obtain⟨q9_0,q9_1,q9_2,q9_3,q9_4,q9_5,q9_6⟩:=tT7 HX9.o z5 e0 e1 e2 e3 e4 e5 e6;have y9z:=Nat.lt_of_lt_of_le z5 HX9.o.size;have HX59:=hH (ext_trans HX5.o HX9.o);clear HO9 HO8 HOL8 HX8 e0 e1 e2 e3 e4 e5 e6;go_wp2_with fail
     go_loopw [5] (fun iv wr=>∃k:Nat,k≤al.length∧iv= .int .i64 k∧Hid (Qc2 (al.drop k)=Qc2 al)∧Hid (Ext w9 wr)) (fun iv _=>al.length-(intOf iv).toNat)
     case atStart=>exact⟨0,Nat.zero_le _,rfl,hH rfl,hH Qac⟩
     case round=>
      obtain⟨k,hk,rfl,HI,HX⟩:=hrel;have hal:=HAL.o;by_cases hlt:k<al.length
      ·obtain⟨g,q,d,b1,m1,k1',b2,m2,k2',rfl,hgb,ek,hnd,s0,s1,s2,s3⟩:=Qdj (HO.o.ext gNo HX.o) hlt;have HCN:=hH (fun(W:World) (hx:Ext wr W)=>Qrs (gNo.ext hnd hx));have hi:=HI.o;rw[Qms ek] at hi;have hgn:¬g=wr.heap.size:=oM;clear ek hnd;by_cases h1:Qa0 d=0
       ·have HN:=hH (show Qc2 (al.drop (k+1))=Qc2 al by rw[←hi,if_neg (by simpa using h1)]);rw[h1] at HCN;clear hi h1;go_wp2_with (go_at_call 29;go_must ((with_reducible refine(HCN.o _ Qac).mono ?_);rintro e w6 ⟨rfl,hx6⟩;skip))
        go_roundw
        case rel=>exact⟨k+1,hlt,by go_num,HN,hH (ext_trans HX.o (ext_trans Qac hx6))⟩
        case measure=>simp[intOf];omega
       ·have HN:=hH (show Qc2 al=Qa0 d by rw[←hi,if_pos h1]);have HR:=hH (show Qaq ⟨(j:Int),(sa,sg),sn,wt,ck,ou⟩=Qa0 d by rw[Qed (by rw[HPK.o,HN.o];exact h1),HPK.o,HN.o]);have t3:(Qa0 d !=0)=true:=by simpa using h1
        clear hi h1 HN;generalize Qa0 d=er at *;go_wp2_with (go_at_call 29;go_must ((with_reducible refine(HCN.o _ Qac).mono ?_);rintro e w6 ⟨rfl,hx6⟩;skip))
        go_ret;exact⟨by rw[HR.o];rfl,ext_trans HX59.o (ext_trans HX.o (ext_trans Qac hx6))⟩
      ·have hno:=checkNL_ok.1 (show Qc2 al=0 by rw[←HI.o,List.drop_eq_nil_of_le oM];rfl);have HPK0:=hH (show Qde ⟨(j:Int),(sa,sg),sn,wt,ck,ou⟩=0 by rw[HPK.o];exact checkNL_ok.2 hno);have HNA:=hH hno;have HNW:=hH (fun(n:No) (h:n∈wt)=>hno n (HMW.o n h));go_wp2_with fail
       obtain⟨V1,eV1⟩:∃W:World,W=wr:=⟨wr,rfl⟩;subst eV1;have HV1:=hH (ext_trans HX59.o HX.o);have HO1':=hH (HO.o.ext gNo HX.o);obtain⟨y0,y1,y2,y3,y4,y5,y6⟩:=tT7 HX.o y9z q9_0 q9_1 q9_2 q9_3 q9_4 q9_5 q9_6;have y1z:=Nat.lt_of_lt_of_le y9z HX.o.size;clear HI HX hlt hk hal hno HPK HMW HMO HX59 HX9 HX5 HO q9_0 q9_1 q9_2 q9_3 q9_4 q9_5 q9_6 z5 y9z HWB HOB;go_loopw [7] (fun iv wr=>∃k:Nat,k≤wt.length∧iv= .int .i64 k∧Hid (Qf8 (j:Int) sn (Qfh wt k) (wt.drop k)=Qcw ⟨(j:Int),(sa,sg),sn,wt,ck,ou⟩)∧Hid (Ext V1 wr)) (fun iv _=>wt.length-(intOf iv).toNat)
       case atStart=>exact⟨0,Nat.zero_le _,rfl,hH rfl,hH Qac⟩
       case round=>
        obtain⟨k,hk,rfl,HI,HX⟩:=hrel;have HXW:=hH (show Ext w wr from ext_trans HV1.o HX.o);have hzr:=Nat.lt_of_lt_of_le y1z HX.o.size;have hlw:=HO4.o.1;obtain⟨r0,r1,r2,r3,r4,r5,r6⟩:=tT7 HX.o y1z y0 y1 y2 y3 y4 y5 y6;by_cases hlt:k<wt.length
        ·obtain⟨g,q,d,b1,m1,k1',b2,m2,k2',ea,hgb,ek,hnd,s0,s1,s2,s3⟩:=Qdj (HWT.o wr HXW.o) hlt;subst ea;have hcn:=HNW.o _ (List.mem_of_getElem? ek);have hN:=checkN_right.1 hcn;obtain⟨ni,nn,nd,dd⟩:=d;have hn5:=hN.site;have hnd5:=(checkI_iff.1 hN.needs).1;simp only at hn5 hnd5 s0 s1 s2 s3 hnd ek;obtain⟨i,rfl⟩:∃i:Nat,ni=(i:Int):=⟨ni.toNat,oM⟩;have hi5:i<5:=oM;obtain⟨b',o',y,ea,hb',e1,_,ca⟩:=Qdb (HQ.o wr HXW.o) hi5;obtain⟨rfl,rfl⟩:b=b'∧o=o':=by injection ea with ea;injection ea with ea1 ea2;exact⟨ea1,ea2⟩
         have cj:=(HXW.o.cells b (o+j) hbw).trans cj0;obtain⟨q1,q2⟩:=Qit hnd;obtain rfl:m1=5:=q1.len.1.trans hnd5;obtain⟨b5,o5,yj,ea5,hb5,e5,_,c5⟩:=Qdb q1 hj5;subst ea5;have HAJ:=hH (show Qfq ⟨(j:Int),(sa,sg),sn,wt,ck,ou⟩ ⟨(i:Int),nn,nd,dd⟩=decide (xj<yj) by have h2:=Qe2 e5;subst h2;rw[HXJ.o];rfl);have HAT:=hH (show atI sn (i:Int).toNat=y by rw[Int.toNat_natCast];exact(Qe2 e1).symm);have HEK:=hH ek;have HMA:=hH (fun(W:World) (hx:Ext wr W)=>Qv9 ((HQ.o wr HXW.o).ext Qd6 hx) (gNo.ext hnd hx) HC5.o hcn);have HND:=hH hnd;have hgn:¬g=wr.heap.size:=oM;have hbn:¬b=wr.heap.size:=oM;have hb5n:¬b5=wr.heap.size:=oM;have hwn:¬w.heap.size=wr.heap.size:=oM;clear ek hcn hN hn5 hnd5 ea e1 e5 hnd q1 q2 y0 y1 y2 y3 y4 y5 y6;by_cases hk0:k=0
         ·have t8:decide (0<(k:Int))=false:=decide_eq_false oM;have t8b:decide (0<k)=false:=decide_eq_false oM;have HPV:=hH (show Qfh wt k=none by unfold Qfh;rw[if_pos hk0]);clear hk0;go_wp2_with fail
          by_cases h2:(i:Int)=(j:Int)
          ·have t2:((i:Int)==(j:Int))=true:=by simpa using h2
           have t2':((i:Nat)==(j:Nat))=true:=sP;have HR:=hH (show Qaq ⟨(j:Int),(sa,sg),sn,wt,ck,ou⟩=4 from Qba HPK0.o (.inl (HI.o.symm.trans (Qbi HEK.o HPV.o (Qw2 h2)))));clear h2;exact Zae
          have t2:((i:Int)==(j:Int))=false:=by simpa using h2
          have t2':((i:Nat)==(j:Nat))=false:=sP;by_cases h3:nn≤y
          ·have t3:decide (nn≤y)=true:=decide_eq_true h3;have HR:=hH (show Qaq ⟨(j:Int),(sa,sg),sn,wt,ck,ou⟩=4 from Qba HPK0.o (.inl (HI.o.symm.trans (Qbi HEK.o HPV.o (Qw3 (by rw[HAT.o];exact h3))))));clear h2 h3;exact Zae
          have t3:decide (nn≤y)=false:=decide_eq_false h3;by_cases h4:xj<yj
          ·have t4:decide (xj<yj)=true:=decide_eq_true h4;have HR:=hH (show Qaq ⟨(j:Int),(sa,sg),sn,wt,ck,ou⟩=4 from Qba HPK0.o (.inl (HI.o.symm.trans (Qbi HEK.o HPV.o (Qw4 (HAJ.o.trans t4))))));clear h2 h3 h4;exact Zae
          have t4:decide (xj<yj)=false:=decide_eq_false h4;cases h5':Qb5 sn ⟨(i:Int),nn,nd,dd⟩ with
          |true=>
           have HR:=hH (show Qaq ⟨(j:Int),(sa,sg),sn,wt,ck,ou⟩=4 from Qba HPK0.o (.inl (HI.o.symm.trans (Qbi HEK.o HPV.o (Qw5 h5')))));rw[h5'] at HMA;clear h2 h3 h4 h5';refine Qad (fun W2 eW2=> ?_);obtain⟨e0,e1,e2,e3,e4,e5,e6⟩:=rR7 eW2 w.heap.size (.int .i64 (j:Nat)) (.slice a1 sa.length k1) (.slice a2 sg.length k2) (.slice (some ⟨b,o,none⟩) 5 k3) (.slice (some ⟨g,q,none⟩) wt.length k4) (.int .i64 ck) (.slice a5 ou.length k5);obtain⟨f0,f1,f2,f3⟩:=rR4 eW2 wr.heap.size (.int .i64 (i:Nat)) (.int .i64 nn) (.slice (some ⟨b5,o5,none⟩) 5 k1') (.slice b2 m2 k2');have x1:=rL eW2 ⟨b,o+i,none⟩ (.int .i64 y);have x2:=rL eW2 ⟨b,o+j,none⟩ (.int .i64 xj);have x3:=rL eW2 ⟨b5,o5+j,none⟩ (.int .i64 yj);have zW2_0:=zE eW2 w.heap.size;have zW2_1:=zE eW2 wr.heap.size;have zW2_2:=zE eW2 b;have zW2_3:=zE eW2 g;have zW2_4:=zE eW2 b5;have hw2:=xE wr eW2;clear eW2;refine Qaa fol kR (fun hlater=> ?_);repeat(go_big_quiet_step ((first
             |(go_at_call 82;(with_reducible exact Qah (HMA.o _ (ext_trans hw2 (Later.ext _))))))))
           refine wpQuiet_nil ?_;rintro w3 ⟨⟨w3x,hx3⟩,rfl⟩;clear hlater;go_wp2_with fail
           go_ret;exact⟨by rw[HR.o];rfl,ext_trans HXW.o (ext_trans hw2 hx3)⟩
          |false=>
           rw[h5'] at HMA;have HR:=hH (show Qf8 (j:Int) sn (Qfh wt (k+1)) (wt.drop (k+1))=Qcw ⟨(j:Int),(sa,sg),sn,wt,ck,ou⟩ from((Qls HEK.o HPV.o (Qro (d:=⟨(j:Int),(sa,sg),sn,wt,ck,ou⟩) sI h2 (by rw[HAT.o];exact h3) (HAJ.o.trans t4) h5')).symm.trans HI.o));clear h2 h3 h4 h5';refine Qad (fun W2 eW2=> ?_);obtain⟨e0,e1,e2,e3,e4,e5,e6⟩:=rR7 eW2 w.heap.size (.int .i64 (j:Nat)) (.slice a1 sa.length k1) (.slice a2 sg.length k2) (.slice (some ⟨b,o,none⟩) 5 k3) (.slice (some ⟨g,q,none⟩) wt.length k4) (.int .i64 ck) (.slice a5 ou.length k5);obtain⟨f0,f1,f2,f3⟩:=rR4 eW2 wr.heap.size (.int .i64 (i:Nat)) (.int .i64 nn) (.slice (some ⟨b5,o5,none⟩) 5 k1') (.slice b2 m2 k2');have x1:=rL eW2 ⟨b,o+i,none⟩ (.int .i64 y);have x2:=rL eW2 ⟨b,o+j,none⟩ (.int .i64 xj);have x3:=rL eW2 ⟨b5,o5+j,none⟩ (.int .i64 yj);have zW2_0:=zE eW2 w.heap.size;have zW2_1:=zE eW2 wr.heap.size;have zW2_2:=zE eW2 b;have zW2_3:=zE eW2 g;have zW2_4:=zE eW2 b5;have hw2:=xE wr eW2;clear eW2;refine Qaa fol kR (fun hlater=> ?_);repeat(go_big_quiet_step ((first
             |(go_at_call 82;(with_reducible exact Qah (HMA.o _ (ext_trans hw2 (Later.ext _))))))))
           refine wpQuiet_nil ?_;exact Zao
         ·have hk1:0<k:=oM;have t8:decide (0<(k:Int))=true:=decide_eq_true oM;have t8b:decide (0<k)=true:=decide_eq_true oM;clear hk0;obtain⟨g',q',pn,b3,m3,k3',b4,m4,k4',ea,_,ekp,hpd,u0,u1,u2,u3⟩:=Qdj (HWT.o wr HXW.o) (i:=k-1) oM;obtain⟨rfl,rfl⟩:g=g'∧q=q':=by injection ea with ea;injection ea with ea1 ea2;exact⟨ea1,ea2⟩
          have HPV:=hH (show Qfh wt k=some pn by unfold Qfh;rw[if_neg oM];exact ekp);have HOR:=hH (fun(W:World) (hx:Ext wr W)=>Qsh (gNo.ext hpd hx) (gNo.ext HND.o hx));clear ea ekp hpd;have hor:=Qer pn ⟨(i:Int),nn,nd,dd⟩;by_cases h1:0≤Qdz pn ⟨(i:Int),nn,nd,dd⟩
          ·have HR:=hH (show Qaq ⟨(j:Int),(sa,sg),sn,wt,ck,ou⟩=4 from Qba HPK0.o (.inl (HI.o.symm.trans (Qbi HEK.o HPV.o (Q73 h1)))));clear hor;generalize Qdz pn ⟨(i:Int),nn,nd,dd⟩=on at *;have t1:decide (0≤on)=true:=decide_eq_true h1;clear h1;go_wp2_with fail
           refine Qad (fun W2 eW2=> ?_);exact Zab
          ·have HO1:=hH (show Qdz pn ⟨(i:Int),nn,nd,dd⟩= -1 by omega);rw[HO1.o] at HOR;clear hor h1;go_wp2_with fail
           by_cases h2:(i:Int)=(j:Int)
           ·have t2:((i:Int)==(j:Int))=true:=by simpa using h2
            have t2':((i:Nat)==(j:Nat))=true:=sP;have HR:=hH (show Qaq ⟨(j:Int),(sa,sg),sn,wt,ck,ou⟩=4 from Qba HPK0.o (.inl (HI.o.symm.trans (Qbi HEK.o HPV.o (Qw2 h2)))));clear h2;refine Qad (fun W2 eW2=> ?_);exact Zab
           have t2:((i:Int)==(j:Int))=false:=by simpa using h2
           have t2':((i:Nat)==(j:Nat))=false:=sP;by_cases h3:nn≤y
           ·have t3:decide (nn≤y)=true:=decide_eq_true h3;have HR:=hH (show Qaq ⟨(j:Int),(sa,sg),sn,wt,ck,ou⟩=4 from Qba HPK0.o (.inl (HI.o.symm.trans (Qbi HEK.o HPV.o (Qw3 (by rw[HAT.o];exact h3))))));clear h2 h3;refine Qad (fun W2 eW2=> ?_);exact Zab
           have t3:decide (nn≤y)=false:=decide_eq_false h3;by_cases h4:xj<yj
           ·have t4:decide (xj<yj)=true:=decide_eq_true h4;have HR:=hH (show Qaq ⟨(j:Int),(sa,sg),sn,wt,ck,ou⟩=4 from Qba HPK0.o (.inl (HI.o.symm.trans (Qbi HEK.o HPV.o (Qw4 (HAJ.o.trans t4))))));clear h2 h3 h4;refine Qad (fun W2 eW2=> ?_);exact Zab
           have t4:decide (xj<yj)=false:=decide_eq_false h4;cases h5':Qb5 sn ⟨(i:Int),nn,nd,dd⟩ with
           |true=>
            have HR:=hH (show Qaq ⟨(j:Int),(sa,sg),sn,wt,ck,ou⟩=4 from Qba HPK0.o (.inl (HI.o.symm.trans (Qbi HEK.o HPV.o (Qw5 h5')))));rw[h5'] at HMA;clear h2 h3 h4 h5';refine Qad (fun W2 eW2=> ?_);obtain⟨e0,e1,e2,e3,e4,e5,e6⟩:=rR7 eW2 w.heap.size (.int .i64 (j:Nat)) (.slice a1 sa.length k1) (.slice a2 sg.length k2) (.slice (some ⟨b,o,none⟩) 5 k3) (.slice (some ⟨g,q,none⟩) wt.length k4) (.int .i64 ck) (.slice a5 ou.length k5);obtain⟨f0,f1,f2,f3⟩:=rR4 eW2 wr.heap.size (.int .i64 (i:Nat)) (.int .i64 nn) (.slice (some ⟨b5,o5,none⟩) 5 k1') (.slice b2 m2 k2');have x1:=rL eW2 ⟨b,o+i,none⟩ (.int .i64 y);have x2:=rL eW2 ⟨b,o+j,none⟩ (.int .i64 xj);have x3:=rL eW2 ⟨b5,o5+j,none⟩ (.int .i64 yj);have p0:=rL eW2 ⟨g,q+(k-1) * 4,none⟩ (.int .i64 pn.site);have p1:=rL eW2 ⟨g,q+(k-1) * 4+1,none⟩ (.int .i64 pn.number);have p2:=rL eW2 ⟨g,q+(k-1) * 4+2,none⟩ (.slice b3 m3 k3');have p3:=rL eW2 ⟨g,q+(k-1) * 4+3,none⟩ (.slice b4 m4 k4');have zW2_0:=zE eW2 w.heap.size;have zW2_1:=zE eW2 wr.heap.size;have zW2_2:=zE eW2 b;have zW2_3:=zE eW2 g;have zW2_4:=zE eW2 b5;have hw2:=xE wr eW2;clear eW2;refine Qaa fol kR (fun hlater=> ?_);repeat(go_big_quiet_step ((first
              |(go_at_call 81;(with_reducible exact Qah (HOR.o _ (ext_trans hw2 (Later.ext _)))))
              |(go_at_call 82;(with_reducible exact Qah (HMA.o _ (ext_trans hw2 (Later.ext _))))))))
            refine wpQuiet_nil ?_;rintro w3 ⟨⟨w3x,hx3⟩,rfl⟩;clear hlater;go_wp2_with fail
            go_ret;exact⟨by rw[HR.o];rfl,ext_trans HXW.o (ext_trans hw2 hx3)⟩
           |false=>
            rw[h5'] at HMA;have HR:=hH (show Qf8 (j:Int) sn (Qfh wt (k+1)) (wt.drop (k+1))=Qcw ⟨(j:Int),(sa,sg),sn,wt,ck,ou⟩ from((Qls HEK.o HPV.o (Qro (d:=⟨(j:Int),(sa,sg),sn,wt,ck,ou⟩) (by rintro _ ⟨rfl⟩;exact HO1.o) h2 (by rw[HAT.o];exact h3) (HAJ.o.trans t4) h5')).symm.trans HI.o));clear h2 h3 h4 h5';refine Qad (fun W2 eW2=> ?_);obtain⟨e0,e1,e2,e3,e4,e5,e6⟩:=rR7 eW2 w.heap.size (.int .i64 (j:Nat)) (.slice a1 sa.length k1) (.slice a2 sg.length k2) (.slice (some ⟨b,o,none⟩) 5 k3) (.slice (some ⟨g,q,none⟩) wt.length k4) (.int .i64 ck) (.slice a5 ou.length k5);obtain⟨f0,f1,f2,f3⟩:=rR4 eW2 wr.heap.size (.int .i64 (i:Nat)) (.int .i64 nn) (.slice (some ⟨b5,o5,none⟩) 5 k1') (.slice b2 m2 k2');have x1:=rL eW2 ⟨b,o+i,none⟩ (.int .i64 y);have x2:=rL eW2 ⟨b,o+j,none⟩ (.int .i64 xj);have x3:=rL eW2 ⟨b5,o5+j,none⟩ (.int .i64 yj);have p0:=rL eW2 ⟨g,q+(k-1) * 4,none⟩ (.int .i64 pn.site);have p1:=rL eW2 ⟨g,q+(k-1) * 4+1,none⟩ (.int .i64 pn.number);have p2:=rL eW2 ⟨g,q+(k-1) * 4+2,none⟩ (.slice b3 m3 k3');have p3:=rL eW2 ⟨g,q+(k-1) * 4+3,none⟩ (.slice b4 m4 k4');have zW2_0:=zE eW2 w.heap.size;have zW2_1:=zE eW2 wr.heap.size;have zW2_2:=zE eW2 b;have zW2_3:=zE eW2 g;have zW2_4:=zE eW2 b5;have hw2:=xE wr eW2;clear eW2;refine Qaa fol kR (fun hlater=> ?_);repeat(go_big_quiet_step ((first
              |(go_at_call 81;(with_reducible exact Qah (HOR.o _ (ext_trans hw2 (Later.ext _)))))
              |(go_at_call 82;(with_reducible exact Qah (HMA.o _ (ext_trans hw2 (Later.ext _))))))))
            refine wpQuiet_nil ?_;exact Zao
        ·have hke:wt.drop k=[]:=List.drop_eq_nil_of_le oM;have HWK:=hH (show Qcw ⟨(j:Int),(sa,sg),sn,wt,ck,ou⟩=false by rw[←HI.o,hke];rfl);clear hke;go_wp2_with fail
         obtain⟨V2,eV2⟩:∃W:World,W=wr:=⟨wr,rfl⟩;subst eV2;have HV2:=hH (ext_trans HV1.o HX.o);have HO2':=hH (HO1'.o.ext gNo HX.o);obtain⟨v0,v1,v2,v3,v4,v5,v6⟩:=tT7 HX.o y1z y0 y1 y2 y3 y4 y5 y6;have y2z:=Nat.lt_of_lt_of_le y1z HX.o.size;clear HI HX hlt hzr hlw HXW r0 r1 r2 r3 r4 r5 r6 y0 y1 y2 y3 y4 y5 y6;go_loopw [9] (fun iv wr=>∃k:Nat,k≤ou.length∧iv= .int .i64 k∧Hid (Qzr (j:Int) (f+k) (ou.drop k)=Qpw ⟨(j:Int),(sa,sg),sn,wt,ck,ou⟩)∧Hid (Ext V2 wr)) (fun iv _=>ou.length-(intOf iv).toNat)
         case atStart=>exact⟨0,Nat.zero_le _,rfl,hH (by have:=HF.o;simpa using this),hH Qac⟩
         case round=>
          obtain⟨k,hk,rfl,HI,HX⟩:=hrel;have HXW:=hH (show Ext w wr from ext_trans HV2.o HX.o);have hzr:=Nat.lt_of_lt_of_le y2z HX.o.size;have hlo:=HO4.o.2;obtain⟨r0,r1,r2,r3,r4,r5,r6⟩:=tT7 HX.o y2z v0 v1 v2 v3 v4 v5 v6;by_cases hlt:k<ou.length
          ·obtain⟨g,q,d,b1,m1,k1',b2,m2,k2',ea,hgb,ek,_,s0,s1,s2,s3⟩:=Qdj (HOU.o wr HXW.o) hlt;subst ea;have cj:=(HXW.o.cells b (o+j) hbw).trans cj0;have hgn:¬g=wr.heap.size:=oM;have hbr:=Nat.lt_of_lt_of_le hbw HXW.o.size;have hi:=HI.o;rw[Quf ek] at hi;have HW3:=hH (show wrap64 (wrap64 (wrap64 (xj-(ou.length:Int))+1)+(k:Int))=f+(k:Int) from Q7t HXB.o.1 HXB.o.2 HO4.o.2 (Nat.le_of_lt hlt) HFE.o);clear v0 v1 v2 v3 v4 v5 v6;by_cases h1:d.site=(j:Int)
           ·have t1:(d.site !=(j:Int))=false:=by simpa using h1
            by_cases h2:d.number=f+(k:Int)
            ·have t2:(d.number !=f+(k:Int))=false:=by simpa using h2
             have HN:=hH (show Qzr (j:Int) (f+((k+1:Nat):Int)) (ou.drop (k+1))=Qpw ⟨(j:Int),(sa,sg),sn,wt,ck,ou⟩ by rw[←hi,show(d.site==(j:Int))=true by simpa using h1,show(d.number==f+(k:Int))=true by simpa using h2];rfl);clear h1 h2 hi ek;go_wp2_with fail
             refine Qad (fun W2 eW2=> ?_);obtain⟨e0,e1,e2,e3,e4,e5,e6⟩:=rR7 eW2 w.heap.size (.int .i64 (j:Nat)) (.slice a1 sa.length k1) (.slice a2 sg.length k2) (.slice (some ⟨b,o,none⟩) 5 k3) (.slice a4 wt.length k4) (.int .i64 ck) (.slice (some ⟨g,q,none⟩) ou.length k5);have s0':=rL eW2 ⟨g,q+k * 4,none⟩ (.int .i64 d.site);have s1':=rL eW2 ⟨g,q+k * 4+1,none⟩ (.int .i64 d.number);have x2:=rL eW2 ⟨b,o+j,none⟩ (.int .i64 xj);have zW2_0:=zE eW2 w.heap.size;have zW2_1:=zE eW2 b;have zW2_2:=zE eW2 g;have hw2:=xE wr eW2;clear eW2;have hw3:=HW3.o;refine Qaa fol kR (fun hlater=> ?_);repeat(go_big_quiet_step ((fail)))
             refine wpQuiet_nil ?_;rintro w3 ⟨⟨w3x,hx3⟩,rfl⟩;clear hlater;rw[hw3];clear hw3;go_wp2_with fail
             go_roundw
             case rel=>exact⟨k+1,hlt,by go_num,HN,hH (ext_trans HX.o (ext_trans hw2 hx3))⟩
             case measure=>simp[intOf];omega
            ·have t2:(d.number !=f+(k:Int))=true:=by simpa using h2
             have HN:=hH (show Qpw ⟨(j:Int),(sa,sg),sn,wt,ck,ou⟩=false by rw[←hi,show(d.number==f+(k:Int))=false by simpa using h2];simp);have HR:=hH (Qba HPK0.o (.inr (.inl HN.o)));clear h1 h2 hi ek;go_wp2_with fail
             refine Qad (fun W2 eW2=> ?_);obtain⟨e0,e1,e2,e3,e4,e5,e6⟩:=rR7 eW2 w.heap.size (.int .i64 (j:Nat)) (.slice a1 sa.length k1) (.slice a2 sg.length k2) (.slice (some ⟨b,o,none⟩) 5 k3) (.slice a4 wt.length k4) (.int .i64 ck) (.slice (some ⟨g,q,none⟩) ou.length k5);have s0':=rL eW2 ⟨g,q+k * 4,none⟩ (.int .i64 d.site);have s1':=rL eW2 ⟨g,q+k * 4+1,none⟩ (.int .i64 d.number);have x2:=rL eW2 ⟨b,o+j,none⟩ (.int .i64 xj);have zW2_0:=zE eW2 w.heap.size;have zW2_1:=zE eW2 b;have zW2_2:=zE eW2 g;have hw2:=xE wr eW2;clear eW2;have hw3:=HW3.o;refine Qaa fol kR (fun hlater=> ?_);repeat(go_big_quiet_step ((fail)))
             refine wpQuiet_nil ?_;rintro w3 ⟨⟨w3x,hx3⟩,rfl⟩;clear hlater;rw[hw3];clear hw3;go_wp2_with fail
             go_ret;exact⟨by rw[HR.o];rfl,ext_trans HXW.o (ext_trans hw2 hx3)⟩
           ·have t1:(d.site !=(j:Int))=true:=by simpa using h1
            have HN:=hH (show Qpw ⟨(j:Int),(sa,sg),sn,wt,ck,ou⟩=false by rw[←hi,show(d.site==(j:Int))=false by simpa using h1];rfl);have HR:=hH (Qba HPK0.o (.inr (.inl HN.o)));clear h1 hi ek;go_wp2_with fail
            refine Qad (fun W2 eW2=> ?_);obtain⟨e0,e1,e2,e3,e4,e5,e6⟩:=rR7 eW2 w.heap.size (.int .i64 (j:Nat)) (.slice a1 sa.length k1) (.slice a2 sg.length k2) (.slice (some ⟨b,o,none⟩) 5 k3) (.slice a4 wt.length k4) (.int .i64 ck) (.slice (some ⟨g,q,none⟩) ou.length k5);have s0':=rL eW2 ⟨g,q+k * 4,none⟩ (.int .i64 d.site);have s1':=rL eW2 ⟨g,q+k * 4+1,none⟩ (.int .i64 d.number);have x2:=rL eW2 ⟨b,o+j,none⟩ (.int .i64 xj);have zW2_0:=zE eW2 w.heap.size;have zW2_1:=zE eW2 b;have zW2_2:=zE eW2 g;have hw2:=xE wr eW2;clear eW2;refine Qaa fol kR (fun hlater=> ?_);repeat(go_big_quiet_step ((fail)))
            refine wpQuiet_nil ?_;rintro w3 ⟨⟨w3x,hx3⟩,rfl⟩;clear hlater;go_wp2_with fail
            go_ret;exact⟨by rw[HR.o];rfl,ext_trans HXW.o (ext_trans hw2 hx3)⟩
          ·have hke:ou.drop k=[]:=List.drop_eq_nil_of_le oM;have HOK:=hH (show Qpw ⟨(j:Int),(sa,sg),sn,wt,ck,ou⟩=true by rw[←HI.o,hke];rfl);clear hke;go_wp2_with fail
           obtain⟨V3,eV3⟩:∃W:World,W=wr:=⟨wr,rfl⟩;subst eV3;have HV3:=hH (ext_trans HV2.o HX.o);have HO3':=hH (HO2'.o.ext gNo HX.o);obtain⟨ml,hml⟩:∃ml:List Mk,sa.map (·.1)=ml:=⟨_,rfl⟩;rw[hml] at HCM HLN;have HML:=hH hml;have HMN:=hH (show ml.length=sa.length by rw[←hml,List.length_map]);clear hml;have HAB:=hH (fun(W:World) (hx:Ext V3 W)=>(RSl.more gAt (G:=fun j=>j<V3.heap.size) (fun _ _ h=>h) (HA.o V3 HV3.o)).ext gAt hx);have HGB:=hH (fun(W:World) (hx:Ext V3 W)=>(RSl.more gMk (G:=fun j=>j<V3.heap.size) (fun _ _ h=>h) (HG.o V3 HV3.o)).ext gMk hx);obtain⟨x0,x1,x2,x3,x4,x5,x6⟩:=tT7 HX.o y2z v0 v1 v2 v3 v4 v5 v6;have y3z:=Nat.lt_of_lt_of_le y2z HX.o.size;clear HI HX hlt hzr hlo HXW r0 r1 r2 r3 r4 r5 r6 v0 v1 v2 v3 v4 v5 v6;go_loopw [10,11] (fun ov iv wr=>∃k:Nat,k≤sa.length∧iv= .int .i64 k∧Hid (OSl RMk 2 103 V3.heap.size (fun _=>True) wr ov ((ml).take k))∧Hid (Ext V3 wr)) (fun _ iv _=>sa.length-(intOf iv).toNat)
           case atStart=>exact⟨0,Nat.zero_le _,rfl,hH Qbn,hH Qac⟩
           case round=>
            obtain⟨k,hk,rfl,HM,HX⟩:=hrel;have hzr:=Nat.lt_of_lt_of_le y3z HX.o.size;have hla:=HLA.o;obtain⟨r0,r1,r2,r3,r4,r5,r6⟩:=tT7 HX.o y3z x0 x1 x2 x3 x4 x5 x6;obtain⟨a10,n10,c10,rfl⟩:=Qab HM.o;have hn10:n10=((ml).take k).length:=(Qa2 HM.o).1;have hv3r:=HX.o.size;by_cases hlt:k<sa.length
            ·obtain⟨g,q,p,d,s,ap,cp,ea,hgb,ek,ick,hpp,s0,s1,s2⟩:=Qcd (HAB.o wr HX.o) hlt;subst ea;have HTS:=hH (show(ml).take (k+1)=(ml).take k++[(p,d)] from Qmi (by rw[←HML.o,List.getElem?_map,ek];rfl));have hml:((ml).take k).length≤1000:=by rw[List.length_take,HMN.o];omega
             have HPP:=hH (fun(W:World) (hx:Ext wr W)=>hpp.ext Qap hx);have HOL:=hH (Qak HM.o);have hgn:¬g=wr.heap.size:=oM;subst hn10;clear ek hpp;generalize (ml).take k=ms at *;go_wp2_with (first|(at_builtin;go_must (refine Qaj gMk rfl (.tmp 171) (.tmp 179) 40 rfl V3.heap.size 103 i1 _ 2 32 Tryz.underlying40 HJ1.o HY0.o HY1.o HY2.o rfl oM (F:=fun _=>True) (G:=fun j=>j<V3.heap.size∨j=wr.heap.size) (.slice a10 ms.length c10) ms rfl (Qai gMk HM.o Qac) (.slice (some ⟨wr.heap.size,0,none⟩) 1 1) [(p,d)] rfl (Qkj (RSl.more Qap (fun j hj _=>Or.inl hj) (HPP.o _ Qac)) ick asG asG (Or.inr rfl) ltA) Qf1 (fun j hj _=>⟨trivial,fun e=>hj.elim (fun hj=>by have:=(HOL.o j e.symm).1;omega) (fun hj=>by have:=(HOL.o j e.symm).2;omega)⟩) (Ql7 hml) (Qia hml) ltA ?_;intro v8 w8 hown8 hg8 hat8;obtain⟨a8,n8,c8,rfl⟩:=Qab hown8;have HX8:=hH (show Ext V3 w8 from Qao (ext_trans HX.o Qac) hg8 (fun j hj=>(HOL.o j hj).1));clear hg8 hat8)))
             go_roundw
             case rel=>exact⟨k+1,hlt,by go_num,hH (by rw[HTS.o];exact hown8),HX8⟩
             case measure=>simp[intOf];omega
            ·have e9:(ml).take k=ml:=List.take_of_length_le (by rw[HMN.o];omega);rw[e9] at HM hn10;obtain rfl:n10=sa.length:=hn10.trans HMN.o;have HMM:=hH HM.o;clear hn10 e9 hv3r;go_upto_region 33 with fail
             refine Qad (fun V4 eV4=> ?_);obtain⟨e0,e1,e2,e3,e4,e5,e6⟩:=rR7 eV4 w.heap.size (.int .i64 (j:Nat)) (.slice a1 sa.length k1) (.slice a2 sg.length k2) (.slice (some ⟨b,o,none⟩) 5 k3) (.slice a4 wt.length k4) (.int .i64 ck) (.slice a5 ou.length k5);have HX4:=hH (show Ext V3 V4 by rw[eV4];exact ext_trans HX.o Qac);have HO4':=hH (HO3'.o.ext gNo HX4.o);have HM4:=hH (show OSl RMk 2 103 V3.heap.size (fun _=>True) V4 (.slice a10 sa.length c10) (ml) by rw[eV4];exact Qai gMk HMM.o Qac);have HOL:=hH (Qak HM4.o);have y4z:w.heap.size<V4.heap.size:=World.block_lt_of_cell? _ _ e0;have hv34:=HX4.o.size;have HGC:=hH (fun(W:World) (v:Value) (hv:RSl RMk 2 (fun _=>True) W v (ml++sg))=>Qgp (site:=(j:Int)) hv HCM.o HLN.o);obtain⟨G,hG⟩:∃G:Int,Qik (Qgu (j:Int)) 0 (ml++sg)=G:=⟨_,rfl⟩;rw[hG] at HGC;have HLG:=hH (show Qoi (j:Int) G al=Qdv ⟨(j:Int),(sa,sg),sn,wt,ck,ou⟩ by rw[←HLK.o,←hG,←HML.o,Q2e]);clear eV4 hG HM HMM HX hlt r0 r1 r2 r3 r4 r5 r6;go_region_held3 (fun W=>W.cell? ⟨w.heap.size,2,none⟩=some (.slice a2 sg.length k2)∧W.cell? ⟨w.heap.size,0,none⟩=some (.int .i64 (j:Nat))) (first|(with_reducible exact⟨e2,e0⟩)|(with_reducible exact⟨(HX6.o.cells _ _ y3z).trans x2,(HX6.o.cells _ _ y3z).trans x0⟩)|(with_reducible exact⟨(HX5'.o.cells _ _ y3z).trans x2,(HX5'.o.cells _ _ y3z).trans x0⟩)|(with_reducible exact⟨(HX4.o.cells _ _ y3z).trans x2,(HX4.o.cells _ _ y3z).trans x0⟩)|go_keep) (first|((refine Qa7 gMk rfl (.tmp 181) (.tmp 184) 40 rfl V3.heap.size 103 i1 _ 2 32 Tryz.underlying40 HJ1.o HY0.o HY1.o HY2.o rfl oM (F:=fun _=>True) (G:=fun j=>j<V3.heap.size) (.slice a10 sa.length c10) (ml) rfl (Qai gMk HM4.o Qac) (.slice a2 sg.length k2) sg rfl (HGB.o _ (ext_trans HX4.o Qac)) Qf1 (fun j hj _=>⟨trivial,fun e=>(by have h1:=(HOL.o j e.symm).1;have hj':j<V3.heap.size:=hj;omega)⟩) (Vdh (HMN.o▸HLA.o) HLG2.o) (Vdg (HMN.o▸HLA.o) HLG2.o) ltA ?_);intro v5 w5 hown5 hg5 hat5;obtain⟨a5',n5,c5,rfl⟩:=Qab hown5;have HX5':=hH (show Ext V3 w5 from Qao (ext_trans HX4.o Qac) hg5 (fun j hj=>(HOL.o j hj).1));have HO5:=hH (Qaz gMk hown5 (G:=fun _=>True) (fun _ _ _=>trivial) (fun _ _=>trivial));clear hg5 hat5 hown5)|(go_at_call 83;go_must ((with_reducible refine(HGC.o _ _ (HO5.o.ext gMk Qac)).mono ?_);rintro e w6 ⟨rfl,hx6⟩;have HX6:=hH (show Ext V3 w6 from ext_trans (ext_trans HX5'.o Qac) hx6))))
             go_wp2_with fail
             go_loopw [12,13] (fun nv iv wr=>∃k:Nat,k≤al.length∧iv= .int .i64 k∧nv= .int .i64 (Qoi (j:Int) G (al.take k))∧Hid (Ext V3 wr)) (fun _ iv _=>al.length-(intOf iv).toNat)
             case atStart=>exact⟨0,Nat.zero_le _,rfl,rfl,hH (ext_trans HX6.o Qac)⟩
             case round=>
              obtain⟨k,hk,rfl,rfl,HX⟩:=hrel;have hzr:=Nat.lt_of_lt_of_le y3z HX.o.size;have hal:=HAL.o;obtain⟨r0,r1,r2,r3,r4,r5,r6⟩:=tT7 HX.o y3z x0 x1 x2 x3 x4 x5 x6;by_cases hlt:k<al.length
              ·obtain⟨g,q,d,b1,m1,k1',b2,m2,k2',ea,hgb,ek,hnd,s0,s1,s2,s3⟩:=Qdj (HO3'.o.ext gNo HX.o) hlt;subst ea;have HNC:=hH (fun(W:World) (hx:Ext wr W)=>Qsg (site:=(j:Int)) (gNo.ext hnd hx) (HNA.o d (List.mem_of_getElem? ek)));have HST:=hH (Qqg (site:=(j:Int)) (n:=G) ek);clear ek hnd;go_wp2_with fail
               refine Qad (fun W2 eW2=> ?_);obtain⟨e0,e1,e2,e3,e4,e5,e6⟩:=rR7 eW2 w.heap.size (.int .i64 (j:Nat)) (.slice a1 sa.length k1) (.slice a2 sg.length k2) (.slice (some ⟨b,o,none⟩) 5 k3) (.slice a4 wt.length k4) (.int .i64 ck) (.slice a5 ou.length k5);have n0:=rL eW2 ⟨g,q+k * 4,none⟩ (.int .i64 d.site);have n1':=rL eW2 ⟨g,q+k * 4+1,none⟩ (.int .i64 d.number);have n2':=rL eW2 ⟨g,q+k * 4+2,none⟩ (.slice b1 m1 k1');have n3':=rL eW2 ⟨g,q+k * 4+3,none⟩ (.slice b2 m2 k2');have zW2_0:=zE eW2 w.heap.size;have zW2_1:=zE eW2 g;have hw2:=xE wr eW2;clear eW2;refine Qaa fol kR (fun hlater=> ?_);repeat(go_big_quiet_step ((first
                 |(go_at_call 84;(with_reducible exact Qah (HNC.o _ (ext_trans hw2 (Later.ext _))))))))
               refine wpQuiet_nil ?_;rintro w3 ⟨⟨w3x,hx3⟩,rfl⟩;clear hlater;generalize Qoi (j:Int) G (al.take k)=c0 at *;generalize Qhz (j:Int) d.deeds=c1 at *;by_cases hlt2:c0<c1
               ·have t1:decide (c0<c1)=true:=decide_eq_true hlt2;have HC1:=hH (show Qk4 c0 c1=c1 by unfold Qk4;split<;>omega);clear hlt2;go_wp2_with fail
                go_roundw
                case rel=>exact⟨k+1,hlt,by go_num,by rw[HST.o,HC1.o],hH (ext_trans HX.o (ext_trans hw2 hx3))⟩
                case measure=>simp[intOf];omega
               ·have t1:decide (c0<c1)=false:=decide_eq_false hlt2;have HC1:=hH (show Qk4 c0 c1=c0 by unfold Qk4;split<;>omega);clear hlt2;go_wp2_with fail
                go_roundw
                case rel=>exact⟨k+1,hlt,by go_num,by rw[HST.o,HC1.o],hH (ext_trans HX.o (ext_trans hw2 hx3))⟩
                case measure=>simp[intOf];omega
              ·have HLL:=hH (show Qoi (j:Int) G (al.take k)=Qdv ⟨(j:Int),(sa,sg),sn,wt,ck,ou⟩ by rw[List.take_of_length_le oM];exact HLG.o);rw[HLL.o];have HXF:=hH (ext_trans HV3.o HX.o);clear HX;by_cases c1:ck≤Qdv ⟨(j:Int),(sa,sg),sn,wt,ck,ou⟩
               ·have t1:decide (ck≤Qdv ⟨(j:Int),(sa,sg),sn,wt,ck,ou⟩)=true:=decide_eq_true c1;have HR:=hH (Qba HPK0.o (.inr (.inr c1)));clear c1;generalize Qdv ⟨(j:Int),(sa,sg),sn,wt,ck,ou⟩=lk at *;go_wp2_with fail
                go_ret;exact⟨by rw[HR.o];rfl,HXF.o⟩
               ·have t1:decide (ck≤Qdv ⟨(j:Int),(sa,sg),sn,wt,ck,ou⟩)=false:=decide_eq_false c1;have HR:=hH (Qmr HPK0.o HWK.o HOK.o c1);clear c1;generalize Qdv ⟨(j:Int),(sa,sg),sn,wt,ck,ou⟩=lk at *;cases c2:inB ck 1 10001 with
                |false=>
                 go_wp2_with (first|(go_at_call 66;go_must ((with_reducible refine(Qas _ _ _ _).mono ?_);rintro e w' ⟨rfl,rfl⟩;skip)))
                 go_ret;exact⟨by rw[HR.o];dsimp only;rw[c2];rfl,ext_trans HXF.o Qac⟩
                |true=>
                 go_wp2_with (first|(go_at_call 66;go_must ((with_reducible refine(Qas _ _ _ _).mono ?_);rintro e w' ⟨rfl,rfl⟩;skip)))
                 go_ret;exact⟨by rw[HR.o];dsimp only;rw[c2];rfl,ext_trans HXF.o Qac⟩
   ·have HR:=hH (show Qaq ⟨st,(sa,sg),sn,wt,ck,ou⟩=Qbx sn by rw[Qed (by rw[Qj3 g1 g2 g3];exact g3),Qj3 g1 g2 g3]);have t1:(Qbx sn !=0)=true:=by simpa using g3
    rw[g2] at HST;clear g2 g3 ha hg hq hw ho;generalize Qbx sn=er at *;have zqb:=trivial;exact Qih
  ·have HR:=hH (show Qaq ⟨st,(sa,sg),sn,wt,ck,ou⟩=Qax (sa,sg) by rw[Qed (by rw[Qiq g1 g2];exact g2),Qiq g1 g2]);have t1:(Qax (sa,sg) !=0)=true:=by simpa using g2
   have t2:(Qax (sa,sg)==0)=false:=by simpa using g2
   clear g2 ha hg hq hw ho;generalize Qax (sa,sg)=er at *;have zqb:=trivial;exact Qih
end Go.Proofs.YtgnccjojfebkeaaGreat
