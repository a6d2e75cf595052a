/- slices.Grow and slices.Concat, of notes. -/
import Derived.Test.YtgnccjojfebkeaaGreatQ453a98ae2d
import Derived.Test.YtgnccjojfebkeaaGreatQb12723dfd3
import Derived.Lib.AppendZeros
import Derived.Lib.AppendZerosOnto
import Derived.Deep.RegionLaw
import Derived.Test.YtgnccjojfebkeaaGreatQed8dd0ae12
set_option linter.unusedVariables false
set_option linter.unusedSimpArgs false
set_option maxRecDepth 100000
set_option maxHeartbeats 4000000
namespace Go.Proofs.YtgnccjojfebkeaaGreat
open Go Go.RowKit Go.BigFrame Cp
def Qvd (l:List No) (w:World) (e:Ending) (w':World):Prop:=∃v,e= .returned v∧OSl RNo 4 48 w.heap.size (fun _=>True) w' v l∧Ext w w'
theorem Q6z {sz e base:Nat} {F:Nat→Prop} {w:World} {g c:Nat} {cur:Array Value} (h:w.heap[g]?=some (.cells cur e (0,0))) (hb:base≤g) (hc:c≤maxLen) (hs:cur.size=c * sz):OSl RNo sz e base F w (.slice (some ⟨g,0,none⟩) 0 c) []:=
 ⟨[],⟨sI,.inr ⟨g,c,cur,rfl,hb,h,Nat.zero_le _,hc,hs,sI⟩⟩,Qfl⟩
theorem Q2f (n:Nat) (hn:n≤1000) (w:World):
  Calls Tryz.prog 222 #[.slice none 0 0,.int .i64 n] w (Qvd [] w):=by
 obtain⟨i0,hi0,hz0,hz1,hz2⟩:=info_parts Qfg;by_cases h0:n=0
 ·subst h0;go_enter Tryz.func222,Tryz.ntmps222;go_wp2_with fail
  go_ret;exact⟨_,rfl,Qbn,Qac⟩
 ·have hrz:∀(W:World) ty,(Builtin.append_ #[23,3] ty #[.slice none 0 0,.int .i64 (n:Int)]).run Tryz.prog W=
   .ok (.slice (some ⟨W.heap.size,0,none⟩) n (grownCap W n 0 48)) (W.drew.alloc (.cells (Builtin.zeroCells (Value.agg #[.int .i64 0,.int .i64 0,.slice none 0 0,.slice none 0 0]).cells n++Builtin.zeroCells (Value.agg #[.int .i64 0,.int .i64 0,.slice none 0 0,.slice none 0 0]).cells (grownCap W n 0 48-n)) 48)):=fun W ty=>
   Lib.run_append_nil_zeros W 23 3 ty 48 i0 _ .i64 .i64 Tryz.underlying23 Tryz.underlying3 hi0 hz0 n oM oM oM (by rw[hz2];omega)
  have HRZ:=hH hrz;have h1:(0:Int)<(n:Int):=oM;have h1':0<n:=oM;have h2:(n:Int)≤1000:=oM;obtain⟨C,hC⟩:∃C,C=grownCap w n 0 48:=⟨_,rfl⟩;have hCn:n≤C:=by rw[hC];exact grownCap_ge w _ _ _
  have hCm:C≤maxLen:=by rw[hC];exact grownCap_le_maxLen w _ _ _ mO
  have HCm:=hH hCm;have HC:=hH hC;have hC0:¬C=0:=oM;obtain⟨ROW,hROW⟩:∃ROW:Array Value,ROW=Builtin.zeroCells (Value.agg #[.int .i64 0,.int .i64 0,.slice none 0 0,.slice none 0 0]).cells n++Builtin.zeroCells (Value.agg #[.int .i64 0,.int .i64 0,.slice none 0 0,.slice none 0 0]).cells (C-n):=⟨_,rfl⟩;have hRs:ROW.size=C * 4:=by
   have hzc:(Value.agg #[.int .i64 0,.int .i64 0,.slice none 0 0,.slice none 0 0]).cells.size=4:=by rfl
   rw[hROW,Array.size_append];simp only[Builtin.zeroCells,Array.size_map,Array.size_range,hzc];omega
  have HRW:=hH (show∀ty,(Builtin.append_ #[23,3] ty #[.slice none 0 0,.int .i64 (n:Int)]).run Tryz.prog w= .ok (.slice (some ⟨w.heap.size,0,none⟩) n C) (w.drew.alloc (.cells ROW 48)) from fun ty=>by rw[HRZ.o w ty,hROW,hC]);have HRS:=hH hRs;clear hrz HRZ hi0 hz0 hz1 hz2 hC hROW hRs hn h0 hCm HC;go_enter Tryz.func222,Tryz.ntmps222;go_wp2_with (at_builtin;go_must (refine Lib.wpList_append_run _ rfl (.tmp 20) (.tmp 21) 23 3 rfl _ _ rfl rfl _ _ (HRW.o _) ?_))
  go_ret;exact⟨_,rfl,Q6z (heap_alloc_new w.drew _) (Nat.le_refl _) HCm.o HRS.o,Qac⟩
theorem Qok {F G:Nat→Prop} {w:World} {v u:Value} {l m:List No} {g:Nat} (h:RSl RNo 4 F w v l) (k:RSl RNo 4 G w u m) (h0:w.cell? ⟨g,0,none⟩=some v) (h1:w.cell? ⟨g,1,none⟩=some u) (hl:l.length≤500) (hm:m.length≤500):
  Calls Tryz.prog 183 #[.slice (some ⟨g,0,none⟩) 2 2] w (Qvd (l++m) w):=by
 have HL:=hH (fun(W:World) (hx:Ext w W)=>h.ext gNo hx);have HM:=hH (fun(W:World) (hx:Ext w W)=>k.ext gNo hx);have HTL:=hH (RSl.more gNo (G:=fun j=>j<w.heap.size) (fun _ _ hj=>hj) h);have HTM:=hH (RSl.more gNo (G:=fun j=>j<w.heap.size) (fun _ _ hj=>hj) k);have hgw:g<w.heap.size:=World.block_lt_of_cell? _ _ h0;obtain⟨a0,n0,c0,rfl⟩:=h.slice;obtain⟨a1,n1,c1,rfl⟩:=k.slice;obtain rfl:n0=l.length:=h.len.1;obtain rfl:n1=m.length:=k.len.1;have hs1:¬((l.length:Int)<0):=oM;have hs2:¬((l.length:Int)+(m.length:Int)<0):=oM;have hs3:(l.length:Int)≤500:=oM;have hs4:(m.length:Int)≤500:=oM;have HGR:=hH (fun(W:World)=>(show Calls Tryz.prog 222 #[.slice none 0 0,.int .i64 ((l.length:Int)+(m.length:Int))] W (Qvd [] W) from Q2f (l.length+m.length) oM W));have HLN:=hH (show l.length+m.length≤1000 by omega);obtain⟨i0,hi0,hz0,hz1',hz2⟩:=info_parts Qfg;have HJ:=hH hi0;have HZ0:=hH hz0;have HZ1:=hH hz1';have HZ2:=hH hz2;have HL5:=hH hl;have HM5:=hH hm;clear h k hi0 hz0 hz1' hz2;go_enter Tryz.func183,Tryz.ntmps183;go_wp2_with fail
 refine wp_loop_rounds 3 ?_;rw[rounds_succ];go_wp2_with fail
 rw[rounds_succ];go_wp2_with fail
 rw[rounds_succ];go_wp2_with (go_at_call 222;((with_reducible refine(HGR.o _).mono ?_);rintro e w3 ⟨v3,rfl,ho3,hx3⟩))
 have HO3:=hH ho3;have HX3:=hH hx3;have HOL:=hH (Qak ho3);obtain⟨a3,n3,c3,rfl⟩:=Qab ho3;obtain rfl:n3=0:=(Qa2 ho3).1;have hz3:=hx3.size;obtain⟨y0,y1⟩:=cC2 hx3 g (.slice a0 l.length c0) (.slice a1 m.length c1);clear ho3 hx3;refine wp_loop_rounds 3 ?_;rw[rounds_succ];go_wp2_with (at_builtin;go_must (refine Qaj gNo rfl (.tmp 31) (.tmp 32) 23 rfl w.heap.size 48 i0 _ 4 64 Tryz.underlying23 HJ.o HZ0.o HZ1.o HZ2.o rfl oM (F:=fun _=>True) (G:=fun j=>j<w.heap.size) (.slice a3 0 c3) [] rfl (Qai gNo HO3.o Qac) (.slice a0 l.length c0) l rfl (HTL.o.ext gNo (ext_trans HX3.o Qac)) Qei (fun j hj _=>⟨trivial,fun e=>by have:=(HOL.o j e.symm).1;omega⟩) (by have:=HL5.o;unfold maxLen;simp;omega) (by have:=HL5.o;simp;omega) ltA ?_;intro v4 w4 hown4 hg4 hat4;obtain⟨a4,n4,c4,rfl⟩:=Qab hown4;have HX4:=hH (show Ext w w4 from Qao (ext_trans HX3.o Qac) hg4 (fun j hj=>(HOL.o j hj).1));have HO4:=hH hown4;have HOL4:=hH (Qak hown4);have z0:=(HX4.o).cl g 0 (.slice a0 l.length c0);have z1:=(HX4.o).cl g 1 (.slice a1 m.length c1);have hz4:=HX4.o.size;rw[List.nil_append] at HO4;obtain rfl:n4=l.length:=(Qa2 HO4.o).1;clear hown4 hg4 hat4))
 rw[rounds_succ];go_wp2_with (at_builtin;go_must (refine Qaj gNo rfl (.tmp 31) (.tmp 32) 23 rfl w.heap.size 48 i0 _ 4 64 Tryz.underlying23 HJ.o HZ0.o HZ1.o HZ2.o rfl oM (F:=fun _=>True) (G:=fun j=>j<w.heap.size) (.slice a4 l.length c4) l rfl (Qai gNo HO4.o Qac) (.slice a1 m.length c1) m rfl (HTM.o.ext gNo (ext_trans HX4.o Qac)) Qei (fun j hj _=>⟨trivial,fun e=>by have:=(HOL4.o j e.symm).1;omega⟩) (by have:=HL5.o;have:=HM5.o;unfold maxLen;simp;omega) (by have:=HL5.o;have:=HM5.o;simp;omega) ltA ?_;intro v5 w5 hown5 hg5 hat5;obtain⟨a5,n5,c5,rfl⟩:=Qab hown5;have HX5:=hH (show Ext w w5 from Qao (ext_trans HX4.o Qac) hg5 (fun j hj=>(HOL4.o j hj).1));have HO5:=hH hown5;have HOL5:=hH (Qak hown5);clear hown5 hg5 hat5))
 rw[rounds_succ];go_wp2_with fail
 go_ret;exact⟨_,rfl,HO5.o,HX5.o⟩
theorem Quf {site f:Int} {l:List No} {k:Nat} {n:No} (h:l[k]?=some n):Qzr site (f+k) (l.drop k)=((n.site==site && n.number==f+k) && Qzr site (f+((k+1:Nat):Int)) (l.drop (k+1))):=by
 rw[Qci h]
 show((n.site==site && n.number==f+k) && Qzr site (f+k+1) (l.drop (k+1)))=_
 rw[Int.natCast_succ,←Int.add_assoc]
theorem Q97 {F:Nat→Prop} {w:World} {cs:List Value} {d:Dk} (h:RDk F w cs d) (hs:0≤d.site∧d.site≤4) (h5:Qbx d.seen=0) (hlo:d.out.length≤500):
  Calls Tryz.prog 131 #[.agg cs.toArray] w fun e w'=>e= .returned (.bool (Qpw d))∧Ext w w':=by
 obtain⟨va,vg,vs,vw,vo,rfl,_,ha,hg,hq,hw,_,ho⟩:=h;obtain⟨st,ss,sn,wt,ck,ou⟩:=d;simp only at ha hg hq hw ho hs h5 hlo ⊢;obtain⟨j,rfl⟩:∃j:Nat,st=(j:Int):=⟨st.toNat,oM⟩;have hj:j<5:=oM;obtain⟨a1,n1,c1,rfl⟩:=ha.slice;obtain⟨a2,n2,c2,rfl⟩:=hg.slice;obtain⟨a3,n3,c3,rfl⟩:=hq.slice;obtain⟨a4,n4,c4,rfl⟩:=hw.slice;obtain⟨a5,n5,c5,rfl⟩:=ho.slice;have hck5:=checkI_iff.1 h5;obtain rfl:n3=5:=hq.len.1.trans hck5.1;obtain rfl:n4=wt.length:=hw.len.1;obtain rfl:n5=ou.length:=ho.len.1;obtain⟨b,o,x,rfl,hb,e1,_,ca⟩:=Qdb hq hj;have hx5:=hck5.2 j hj;rw[←Qe2 e1] at hx5;have HO:=hH (fun(W:World) (hx:Ext w W)=>ho.ext gNo hx);have HF:=hH (show Qzr (j:Int) (x-(ou.length:Int)+1) ou=Qpw ⟨(j:Int),ss,sn,wt,ck,ou⟩ by have h1:=Qe2 e1;subst h1;rfl);obtain⟨f,hf⟩:∃f:Int,x-(ou.length:Int)+1=f:=⟨_,rfl⟩;have hf1: -500≤f:=oM;have hf2:f≤501:=oM;have hw2:wrap64 (wrap64 (x-(ou.length:Int))+1)=f:=by rw[IntWalk.wrap64_in (x-(ou.length:Int)) oM,IntWalk.wrap64_in _ oM,hf]
 rw[hf] at HF;have HW2:=hH hw2;clear hw2;clear ha hg hq hw ho hs h5 hck5 e1 hf hx5;go_enter Tryz.func131,Tryz.ntmps131;go_wp2_with fail
 refine Qad (fun W2 eW2=> ?_);obtain⟨e0,e1,e2,e3,e4,e5,e6⟩:=rR7 eW2 w.heap.size (.int .i64 (j:Nat)) (.slice a1 n1 c1) (.slice a2 n2 c2) (.slice (some ⟨b,o,none⟩) 5 c3) (.slice a4 wt.length c4) (.int .i64 ck) (.slice a5 ou.length c5);have x0:=rL eW2 ⟨b,o+j,none⟩ (.int .i64 x);have zW2_0:=zE eW2 w.heap.size;have zW2_1:=zE eW2 b;have hw2':Ext w W2:=by rw[eW2];exact Qac
 clear eW2;refine Qaa fol kR (fun hlater=> ?_);repeat(go_big_quiet_step ((fail)))
 refine wpQuiet_nil ?_;rintro w3 ⟨⟨w3x,hx3⟩,rfl⟩;clear hlater;rw[HW2.o];have HX3:=hH (ext_trans hw2' hx3);have zz:w.heap.size<w3.heap.size:=hx3.lt _;have y0:=hx3.cl w.heap.size 0 (.int .i64 (j:Nat));have y5:=hx3.cl w.heap.size 6 (.slice a5 ou.length c5);clear e0 e1 e2 e3 e4 e5 e6 x0 hw2' hx3 zW2_0 zW2_1 ca;go_wp2_with fail
 go_loopw [20] (fun iv wr=>∃k:Nat,k≤ou.length∧iv= .int .i64 k∧Hid (Qzr (j:Int) (f+k) (ou.drop k)=Qpw ⟨(j:Int),ss,sn,wt,ck,ou⟩)∧Hid (Ext w3 wr)) (fun iv _=>ou.length-(intOf iv).toNat)
 case atStart=>exact⟨0,Nat.zero_le _,rfl,hH (by have:=HF.o;simpa using this),hH Qac⟩
 case round=>
  obtain⟨k,hk,rfl,HI,HX⟩:=hrel;have r0:=HX.o.cl w.heap.size 0 (.int .i64 (j:Nat));have hzr:=HX.o.size;by_cases hlt:k<ou.length
  ·obtain⟨g,q,d,b1,m1,k1,b2,m2,k2,rfl,hgb,ek,_,s0,s1,s2,s3⟩:=Qdj (HO.o wr (ext_trans HX3.o HX.o)) hlt;have hgn:¬g=wr.heap.size:=oM;have hwl:w.heap.size<wr.heap.size:=oM;have hwn:¬w.heap.size=wr.heap.size:=oM;have hi:=HI.o;rw[Quf ek] at hi;by_cases h1:d.site=(j:Int)
   ·have t1:(d.site !=(j:Int))=false:=by simpa using h1
    by_cases h2:d.number=f+(k:Int)
    ·have t2:(d.number !=f+(k:Int))=false:=by simpa using h2
     have HN:=hH (show Qzr (j:Int) (f+((k+1:Nat):Int)) (ou.drop (k+1))=Qpw ⟨(j:Int),ss,sn,wt,ck,ou⟩ by rw[←hi,show(d.site==(j:Int))=true by simpa using h1,show(d.number==f+(k:Int))=true by simpa using h2];rfl);clear h1 h2 hi ek;go_wp2_with fail
     go_roundw
     case rel=>exact⟨k+1,hlt,by go_num,HN,hH (ext_trans HX.o Qac)⟩
     case measure=>simp[intOf];omega
    ·have t2:(d.number !=f+(k:Int))=true:=by simpa using h2
     have HN:=hH (show false=Qpw ⟨(j:Int),ss,sn,wt,ck,ou⟩ by rw[←hi,show(d.number==f+(k:Int))=false by simpa using h2];simp);clear h1 h2 hi ek;go_wp2_with fail
     go_ret;exact⟨rb HN.o,ext_trans HX3.o (ext_trans HX.o Qac)⟩
   ·have t1:(d.site !=(j:Int))=true:=by simpa using h1
    have HN:=hH (show false=Qpw ⟨(j:Int),ss,sn,wt,ck,ou⟩ by rw[←hi,show(d.site==(j:Int))=false by simpa using h1];rfl);clear h1 hi ek;go_wp2_with fail
    go_ret;exact⟨rb HN.o,ext_trans HX3.o (ext_trans HX.o Qac)⟩
  ·have hke:k=ou.length:=oM;have HN:=hH (show true=Qpw ⟨(j:Int),ss,sn,wt,ck,ou⟩ by rw[←HI.o,hke,List.drop_length];rfl);clear hke;go_wp2_with fail
   go_ret;exact⟨rb HN.o,ext_trans HX3.o HX.o⟩
theorem Qyq {site n:Int} {l:List At} {k:Nat} {a:At} (h:l[k]?=some a):Qrw site n (l.take (k+1))=Qk4 (Qrw site n (l.take k)) (Qgu site a.1):=Qim (fun(a:At)=>Qgu site a.1) n h
theorem Qyr {site n:Int} {l:List Mk} {k:Nat} {a:Mk} (h:l[k]?=some a):Qrx site n (l.take (k+1))=Qk4 (Qrx site n (l.take k)) (Qgu site a):=Qim (Qgu site) n h
theorem Qqg {site n:Int} {l:List No} {k:Nat} {a:No} (h:l[k]?=some a):Qoi site n (l.take (k+1))=Qk4 (Qoi site n (l.take k)) (Qhz site a.deeds):=Qim (fun(x:No)=>Qhz site x.deeds) n h
theorem Qit {F:Nat→Prop} {w:World} {s k:Int} {v u:Value} {n:No} (h:RNo F w [.int .i64 s,.int .i64 k,v,u] n):RSl Qe1 1 F w v n.needs∧RSl RDe 7 F w u n.deeds:=by
 obtain⟨v',u',he,_,_,hv,hu⟩:=h;injection he with _ he
 injection he with _ he
 injection he with e1 he
 injection he with e2 _
 subst e1;subst e2;exact⟨hv,hu⟩
theorem Za1 {p:Prop} (h:p:=by
 have hgn:¬g=wr.heap.size:=oM;have hwl:w.heap.size<wr.heap.size:=oM;have hwn:¬w.heap.size=wr.heap.size:=oM;clear hm ek hpp ick;go_wp2_with (go_at_call 184;((with_reducible refine(HCK.o _ Qac).mono ?_);rintro e w4 ⟨rfl,hx4⟩))
 go_roundw
 case rel=>exact⟨k+1,hlt,by go_num,by rw[HEK.o];rfl,hH (ext_trans HX.o (ext_trans Qac hx4))⟩
 case measure=>simp[intOf];omega):p:=h
theorem Q6d {F:Nat→Prop} {w:World} {cs:List Value} {d:Dk} (h:RDk F w cs d) (hs:0≤d.site∧d.site≤4) (hst:Qpy d.state) (hlw:d.waits.length≤500) (hlo:d.out.length≤500) (hnn:∀n∈d.waits++d.out,Qa0 n=0):
  Calls Tryz.prog 132 #[.agg cs.toArray] w fun e w'=>e= .returned (.int .i64 (Qdv d))∧Ext w w':=by
 obtain⟨va,vg,vs,vw,vo,rfl,_,ha,hg,hq,hw,_,ho⟩:=h;obtain⟨st,ss,sn,wt,ck,ou⟩:=d;simp only at ha hg hq hw ho hs hst hlw hlo hnn ⊢;obtain⟨j,rfl⟩:∃j:Nat,st=(j:Int):=⟨st.toNat,oM⟩;have hj:j<5:=oM;obtain⟨a1,n1,c1,rfl⟩:=ha.slice;obtain⟨a2,n2,c2,rfl⟩:=hg.slice;obtain⟨a3,n3,c3,rfl⟩:=hq.slice;obtain⟨a4,n4,c4,rfl⟩:=hw.slice;obtain⟨a5,n5,c5,rfl⟩:=ho.slice;obtain rfl:n1=ss.1.length:=ha.len.1;obtain rfl:n2=ss.2.length:=hg.len.1;obtain rfl:n4=wt.length:=hw.len.1;obtain rfl:n5=ou.length:=ho.len.1;have HA:=hH (fun(W:World) (hx:Ext w W)=>ha.ext gAt hx);have HG:=hH (fun(W:World) (hx:Ext w W)=>hg.ext gMk hx);have HCO:=hH (fun(W:World) (hx:Ext w W) (q:Nat) h0 h1=>Qok (g:=q) (hw.ext gNo hx) (ho.ext gNo hx) h0 h1 hlw hlo);have HNN:=hH hnn;have hl3:ss.1.length≤300:=hst.2.1;have hl6:ss.2.length≤600:=hst.2.2;have HMA:=hH (fun(a:At) (h:a∈ss.1)=>checkM_ok.1 (hst.1.1.2 a h).1);have HMG:=hH (fun(m:Mk) (h:m∈ss.2)=>checkM_ok.1 (hst.1.2.2.1 m h));obtain⟨A,hA⟩:∃A:Int,Qrw (j:Int) 0 ss.1=A:=⟨_,rfl⟩;obtain⟨B,hB⟩:∃B:Int,Qrx (j:Int) A ss.2=B:=⟨_,rfl⟩;have HLK:=hH (show Qoi (j:Int) B (wt++ou)=Qdv ⟨(j:Int),ss,sn,wt,ck,ou⟩ by rw[←hB,←hA];rfl);have HAE:=hH hA;have HBE:=hH hB;have hl2:wt.length+ou.length≤1000:=oM;have hal:(wt++ou).length≤1000:=by rw[List.length_append];exact hl2
 generalize wt++ou=al at HCO HLK HNN hal;clear ha hg hq hw ho hs hst hlw hlo hA hB hl2;go_enter Tryz.func132,Tryz.ntmps132;go_wp2_with fail
 go_loopw [3,14] (fun nv iv wr=>∃k:Nat,k≤ss.1.length∧iv= .int .i64 k∧nv= .int .i64 (Qrw (j:Int) 0 (ss.1.take k))∧Hid (Ext (w.alloc (.cells #[.int .i64 (j:Nat),.slice a1 ss.1.length c1,.slice a2 ss.2.length c2,.slice a3 n3 c3,.slice a4 wt.length c4,.int .i64 ck,.slice a5 ou.length c5] 45)) wr)) (fun _ iv _=>ss.1.length-(intOf iv).toNat)
 case atStart=>exact⟨0,Nat.zero_le _,rfl,rfl,hH (ext_refl _)⟩
 case round=>
  obtain⟨k,hk,rfl,rfl,HX⟩:=hrel;have HXW:=hH (show Ext w wr from ext_trans (ext_alloc (ext_refl _) _) HX.o);have hzr:=HX.o.size
  (try simp at hzr)
  obtain⟨r0,r1,r2⟩:=cC3 HX.o w.heap.size (.int .i64 (j:Nat)) (.slice a1 ss.1.length c1) (.slice a2 ss.2.length c2);have r4:=HX.o.cl w.heap.size 4 (.slice a4 wt.length c4);have r6:=HX.o.cl w.heap.size 6 (.slice a5 ou.length c5);by_cases hlt:k<ss.1.length
  ·obtain⟨g,q,p,c,s,ap,cp,rfl,hgb,ek,ick,hpp,s0,s1,s2⟩:=Qcd (HA.o wr HXW.o) hlt;have hm:=HMA.o _ (List.mem_of_getElem? ek);have HCK:=hH (fun(W:World) (hx:Ext wr W)=>Ql2 (site:=(j:Int)) (Qam (hpp.ext Qap hx) ick) hm.2.1 (Nat.le_trans hm.1 oM));have HEK:=hH (Qyq (site:=(j:Int)) (n:=0) ek);exact Za1
  ·have hke:ss.1.take k=ss.1:=List.take_of_length_le oM;rw[hke,HAE.o];have HX1:=HX;clear hke HXW;have hzq:=HX1.o.size
   (try simp at hzq)
   clear HX;go_wp2_with fail
   clear hlt hk;obtain⟨wa,ewa⟩:∃W:World,W=wr:=⟨wr,rfl⟩;subst ewa;go_loopw [3,30] (fun nv iv wr=>∃k:Nat,k≤ss.2.length∧iv= .int .i64 k∧nv= .int .i64 (Qrx (j:Int) A (ss.2.take k))∧Hid (Ext wa wr)) (fun _ iv _=>ss.2.length-(intOf iv).toNat)
   case atStart=>exact⟨0,Nat.zero_le _,rfl,rfl,hH (ext_refl _)⟩
   case round=>
    obtain⟨k,hk,rfl,rfl,HX⟩:=hrel;have HXW:=hH (show Ext w wr from ext_trans (ext_trans (ext_alloc (ext_refl _) _) HX1.o) HX.o);have hzs:=HX.o.size;obtain⟨x0,x1,x2⟩:=cC3 HX.o w.heap.size (.int .i64 (j:Nat)) (.slice a1 ss.1.length c1) (.slice a2 ss.2.length c2);have x4:=HX.o.cl w.heap.size 4 (.slice a4 wt.length c4);have x6:=HX.o.cl w.heap.size 6 (.slice a5 ou.length c5);by_cases hlt:k<ss.2.length
    ·obtain⟨g,q,p,c,ap,cp,rfl,hgb,ek,ick,hpp,s0,s1⟩:=Qc7 (HG.o wr HXW.o) hlt;have hm:=HMG.o _ (List.mem_of_getElem? ek);have HCK:=hH (fun(W:World) (hx:Ext wr W)=>Ql2 (site:=(j:Int)) (Qam (hpp.ext Qap hx) ick) hm.2.1 (Nat.le_trans hm.1 oM));have HEK:=hH (Qyr (site:=(j:Int)) (n:=A) ek);exact Za1
    ·have hke:ss.2.take k=ss.2:=List.take_of_length_le oM;rw[hke,HBE.o];clear hke;have HXQ:=HXW;have hwl:w.heap.size<wr.heap.size:=oM;clear HX HXW HX1 HA HG HMA HMG r0 r1 r2 r4 r6;go_wp2_with (go_at_call 183;((with_reducible refine(HCO.o _ (ext_trans HXQ.o Qac) _ gS gS).mono ?_);rintro e w5 ⟨v5,rfl,ho5,hx5⟩;obtain⟨a8,n8,c8,rfl⟩:=Qab ho5;obtain rfl:n8=al.length:=(Qa2 ho5).1))
     clear hlt hk;have HO:=hH (Qaz gNo ho5 (G:=fun _=>True) (fun _ _ _=>trivial) (fun _ _=>trivial));have HXC:=xX HXQ hx5;have hz5:=hx5.size
     (try simp at hz5)
     have z0:=hx5.cl w.heap.size 0 (.int .i64 (j:Nat));clear ho5 hx5;go_loopw [3,48] (fun nv iv wr=>∃k:Nat,k≤al.length∧iv= .int .i64 k∧nv= .int .i64 (Qoi (j:Int) B (al.take k))∧Hid (Ext w5 wr)) (fun _ iv _=>al.length-(intOf iv).toNat)
     case atStart=>exact⟨0,Nat.zero_le _,rfl,rfl,hH Qac⟩
     case round=>
      obtain⟨k,hk,rfl,rfl,HX⟩:=hrel;have hzp:=HX.o.size;have t0:=HX.o.cl w.heap.size 0 (.int .i64 (j:Nat));by_cases hlt:k<al.length
      ·obtain⟨g,q,d,b1,m1,k1,b2,m2,k2,rfl,hgb,ek,hnd,s0,s1,s2,s3⟩:=Qdj (HO.o.ext gNo HX.o) hlt;have hN:=checkN_right.1 (HNN.o _ (List.mem_of_getElem? ek));have HCL:=hH (fun(W:World) (hx:Ext wr W)=>Qqh (site:=(j:Int)) ((Qit hnd).2.ext gDe hx) hN.deeds (Nat.le_trans hN.few oM));have HEK:=hH (Qqg (site:=(j:Int)) (n:=B) ek);have hgn:¬g=wr.heap.size:=oM;have hwl:w.heap.size<wr.heap.size:=oM;have hwn:¬w.heap.size=wr.heap.size:=oM;clear hN ek hnd;go_wp2_with (go_at_call 159;((with_reducible refine(HCL.o _ Qac).mono ?_);rintro e w4 ⟨rfl,hx4⟩))
       go_roundw
       case rel=>exact⟨k+1,hlt,by go_num,by rw[HEK.o];rfl,hH (ext_trans HX.o (ext_trans Qac hx4))⟩
       case measure=>simp[intOf];omega
      ·have hke:al.take k=al:=List.take_of_length_le oM;rw[hke,HLK.o];clear hke;go_wp2_with fail
       go_ret;exact⟨rfl,ext_trans HXC.o HX.o⟩
def Qfh (l:List No) (k:Nat):Option No:=if k=0 then none else l[k-1]?
section
variable {site:Int} {seen:List Int} {l:List No} {k:Nat} {n:No} {p:Option No}
theorem Qu4 (h:l[k]?=some n) (hp:Qfh l k=p):Qf8 site seen (Qfh l k) (l.drop k)=(Qs1 site seen p n ||Qf8 site seen (Qfh l (k+1)) (l.drop (k+1))):=by
 rw[hp,Qci h];have e:Qfh l (k+1)=some n:=by unfold Qfh;rw[if_neg oM,Nat.add_sub_cancel,h]
 rw[e];rfl
theorem Qbi (h:l[k]?=some n) (hp:Qfh l k=p) (hb:Qs1 site seen p n=true):Qf8 site seen (Qfh l k) (l.drop k)=true:=by rw[Qu4 h hp,hb];rfl
theorem Qls (h:l[k]?=some n) (hp:Qfh l k=p) (hb:Qs1 site seen p n=false):Qf8 site seen (Qfh l k) (l.drop k)=Qf8 site seen (Qfh l (k+1)) (l.drop (k+1)):=by rw[Qu4 h hp,hb];rfl
theorem Q73 {q:No} (h:0≤Qdz q n):Qs1 site seen (some q) n=true:=by unfold Qs1;simp[h]
theorem Qw2 (h:n.site=site):Qs1 site seen p n=true:=by unfold Qs1;simp[h]
theorem Qw3 (h:n.number≤atI seen n.site.toNat):Qs1 site seen p n=true:=by unfold Qs1;simp[h]
theorem Qw4 {d:Dk} (h:Qfq d n=true):Qs1 d.site d.seen p n=true:=by unfold Qfq at h;unfold Qs1;rw[h];simp
theorem Qw5 (h:Qb5 seen n=true):Qs1 site seen p n=true:=by unfold Qs1;simp[h]
theorem Qro {d:Dk} (h1:∀q,p=some q→Qdz q n= -1) (h2:¬n.site=d.site) (h3:¬n.number≤atI d.seen n.site.toNat) (h4:Qfq d n=false) (h5:Qb5 d.seen n=false):Qs1 d.site d.seen p n=false:=by
 refine badW_ok.2 ⟨h1,h2,oM,?_,h5⟩;unfold Qfq at h4;simpa using h4
end
theorem Zao {p:Prop} (h:p:=by
 rintro w3 ⟨⟨w3x,hx3⟩,rfl⟩;clear hlater;go_wp2_with fail
 go_roundw
 case rel=>exact⟨k+1,hlt,by go_num,HR,hH (ext_trans HX.o (ext_trans hw2 hx3))⟩
 case measure=>simp[intOf];omega):p:=h
theorem Zak {p:Prop} (h:p:=by
 refine Qad (fun W2 eW2=> ?_);obtain⟨e0,e1,e2,e3,e4,e5,e6⟩:=rR7 eW2 w.heap.size (.int .i64 (j:Nat)) (.slice a1 n1 c1) (.slice a2 n2 c2) (.slice (some ⟨b,o,none⟩) 5 c3) (.slice (some ⟨g,q,none⟩) wt.length c4) (.int .i64 ck) (.slice a5 ou.length c5);obtain⟨f0,f1,f2,f3⟩:=rR4 eW2 wr.heap.size (.int .i64 (i:Nat)) (.int .i64 nn) (.slice b1 m1 k1) (.slice b2 m2 k2);have x1:=rL eW2 ⟨b,o+i,none⟩ (.int .i64 y);have zW2_0:=zE eW2 w.heap.size;have zW2_1:=zE eW2 wr.heap.size;have zW2_2:=zE eW2 b;have zW2_3:=zE eW2 g;have hw2:=xE wr eW2;clear eW2;refine Qaa fol kR (fun hlater=> ?_);repeat(go_big_quiet_step ((fail)))
 refine wpQuiet_nil ?_;rintro w3 ⟨⟨w3x,hx3⟩,rfl⟩;clear hlater;go_wp2_with fail
 go_ret;exact⟨rb HR.o,ext_trans HXW.o (ext_trans hw2 hx3)⟩):p:=h
theorem Zad {p:Prop} (h:p:=by
 obtain⟨e0,e1,e2,e3,e4,e5,e6⟩:=rR7 eW2 w.heap.size (.int .i64 (j:Nat)) (.slice a1 n1 c1) (.slice a2 n2 c2) (.slice (some ⟨b,o,none⟩) 5 c3) (.slice (some ⟨g,q,none⟩) wt.length c4) (.int .i64 ck) (.slice a5 ou.length c5);obtain⟨f0,f1,f2,f3⟩:=rR4 eW2 wr.heap.size (.int .i64 (i:Nat)) (.int .i64 nn) (.slice b1 m1 k1) (.slice b2 m2 k2);have x1:=rL eW2 ⟨b,o+i,none⟩ (.int .i64 y);have p0:=rL eW2 ⟨g,q+(k-1) * 4,none⟩ (.int .i64 pn.site);have p1:=rL eW2 ⟨g,q+(k-1) * 4+1,none⟩ (.int .i64 pn.number);have p2:=rL eW2 ⟨g,q+(k-1) * 4+2,none⟩ (.slice b3 m3 k3);have p3:=rL eW2 ⟨g,q+(k-1) * 4+3,none⟩ (.slice b4 m4 k4);have zW2_0:=zE eW2 w.heap.size;have zW2_1:=zE eW2 wr.heap.size;have zW2_2:=zE eW2 b;have zW2_3:=zE eW2 g;have hw2:=xE wr eW2;clear eW2;refine Qaa fol kR (fun hlater=> ?_);repeat(go_big_quiet_step ((first
   |(go_at_call 155;(with_reducible exact Qah (HOR.o _ (ext_trans hw2 (Later.ext _))))))))
 refine wpQuiet_nil ?_;rintro w3 ⟨⟨w3x,hx3⟩,rfl⟩;clear hlater;go_wp2_with fail
 go_ret;exact⟨rb HR.o,ext_trans HXW.o (ext_trans hw2 hx3)⟩):p:=h
theorem Q4q {F:Nat→Prop} {w:World} {cs:List Value} {d:Dk} (h:RDk F w cs d) (hs:0≤d.site∧d.site≤4) (h5:Qbx d.seen=0) (hlw:d.waits.length≤500) (hnn:∀n∈d.waits,Qa0 n=0):
  Calls Tryz.prog 130 #[.agg cs.toArray] w fun e w'=>e= .returned (.bool (Qcw d))∧Ext w w':=by
 have hD:=h;obtain⟨va,vg,vs,vw,vo,rfl,_,ha,hg,hq,hw,_,ho⟩:=h;obtain⟨st,ss,sn,wt,ck,ou⟩:=d;simp only at ha hg hq hw ho hs h5 hlw hnn hD ⊢;obtain⟨j,rfl⟩:∃j:Nat,st=(j:Int):=⟨st.toNat,oM⟩;have hj:j<5:=oM;obtain⟨a1,n1,c1,rfl⟩:=ha.slice;obtain⟨a2,n2,c2,rfl⟩:=hg.slice;obtain⟨a3,n3,c3,rfl⟩:=hq.slice;obtain⟨a4,n4,c4,rfl⟩:=hw.slice;obtain⟨a5,n5,c5,rfl⟩:=ho.slice;have hck5:=checkI_iff.1 h5;obtain rfl:n3=5:=hq.len.1.trans hck5.1;obtain rfl:n4=wt.length:=hw.len.1;obtain rfl:n5=ou.length:=ho.len.1;have HQ:=hH (fun(W:World) (hx:Ext w W)=>hq.ext Qd6 hx);have HW:=hH (fun(W:World) (hx:Ext w W)=>hw.ext gNo hx);have HD:=hH (fun(W:World) (hx:Ext w W)=>gDk.ext hD hx);have HNN:=hH hnn;have HS:=hH hs;have H5:=hH h5;obtain⟨b,o,x,ea,hb,_,_,_⟩:=Qdb hq hj;subst ea;clear ha hg hq hw ho hs h5 hck5 hnn hD;go_enter Tryz.func130,Tryz.ntmps130;go_wp2_with fail
 go_loopw [8] (fun iv wr=>∃k:Nat,k≤wt.length∧iv= .int .i64 k∧Hid (Qf8 (j:Int) sn (Qfh wt k) (wt.drop k)=Qcw ⟨(j:Int),ss,sn,wt,ck,ou⟩)∧Hid (Ext (w.alloc (.cells #[.int .i64 (j:Nat),.slice a1 n1 c1,.slice a2 n2 c2,.slice (some ⟨b,o,none⟩) 5 c3,.slice a4 wt.length c4,.int .i64 ck,.slice a5 ou.length c5] 45)) wr)) (fun iv _=>wt.length-(intOf iv).toNat)
 case atStart=>exact⟨0,Nat.zero_le _,rfl,hH rfl,hH (ext_refl _)⟩
 case round=>
  obtain⟨k,hk,rfl,HI,HX⟩:=hrel;have HXW:=hH (show Ext w wr from ext_trans (ext_alloc (ext_refl _) _) HX.o);have hzr:=HX.o.size
  (try simp at hzr)
  obtain⟨r0,r1,r2,r3,r4,r5,r6⟩:=cC7 HX.o w.heap.size (.int .i64 (j:Nat)) (.slice a1 n1 c1) (.slice a2 n2 c2) (.slice (some ⟨b,o,none⟩) 5 c3) (.slice a4 wt.length c4) (.int .i64 ck) (.slice a5 ou.length c5);by_cases hlt:k<wt.length
  ·obtain⟨g,q,d,b1,m1,k1,b2,m2,k2,ea,hgb,ek,hnd,s0,s1,s2,s3⟩:=Qdj (HW.o wr HXW.o) hlt;subst ea;have hcn:=HNN.o _ (List.mem_of_getElem? ek);have hN:=checkN_right.1 hcn;obtain⟨ni,nn,nd,dd⟩:=d;have hn5:=hN.site;have hnd5:=(checkI_iff.1 hN.needs).1;simp only at hn5 hnd5 s0 s1 s2 s3 hnd ek;obtain⟨i,rfl⟩:∃i:Nat,ni=(i:Int):=⟨ni.toNat,oM⟩;have hi5:i<5:=oM;obtain⟨b',o',y,ea,hb',e1,_,ca⟩:=Qdb (HQ.o wr HXW.o) hi5;obtain⟨rfl,rfl⟩:b=b'∧o=o':=by injection ea with ea;injection ea with ea1 ea2;exact⟨ea1,ea2⟩
   have HAT:=hH (show atI sn (i:Int).toNat=y by rw[Int.toNat_natCast];exact(Qe2 e1).symm);have HEK:=hH ek;have HAH:=hH (fun(W:World) (hx:Ext wr W)=>Qp0 (HD.o W (ext_trans HXW.o hx)) (gNo.ext hnd hx) HS.o (checkI_iff.1 H5.out).1 hnd5);have HMA:=hH (fun(W:World) (hx:Ext wr W)=>Qxr ((HQ.o wr HXW.o).ext Qd6 hx) (gNo.ext hnd hx) H5.out hcn);have HND:=hH hnd;have hgn:¬g=wr.heap.size:=oM;have hbn:¬b=wr.heap.size:=oM;have hwl:w.heap.size<wr.heap.size:=oM;have hwn:¬w.heap.size=wr.heap.size:=oM;clear ek hcn hN hn5 hnd5 ea e1 hnd;by_cases hk0:k=0
   ·have t8:decide (0<(k:Int))=false:=decide_eq_false oM;have t8b:decide (0<k)=false:=decide_eq_false oM;have HPV:=hH (show Qfh wt k=none by unfold Qfh;rw[if_pos hk0]);clear hk0;go_wp2_with fail
    by_cases h2:(i:Int)=(j:Int)
    ·have t2:((i:Int)==(j:Int))=true:=by simpa using h2
     have t2':((i:Nat)==(j:Nat))=true:=sP;have HR:=hH (show true=Qcw ⟨(j:Int),ss,sn,wt,ck,ou⟩ from(HI.o.symm.trans (Qbi HEK.o HPV.o (Qw2 h2))).symm);clear h2;exact Zak
    have t2:((i:Int)==(j:Int))=false:=by simpa using h2
    have t2':((i:Nat)==(j:Nat))=false:=sP;by_cases h3:nn≤y
    ·have t3:decide (nn≤y)=true:=decide_eq_true h3;have HR:=hH (show true=Qcw ⟨(j:Int),ss,sn,wt,ck,ou⟩ from(HI.o.symm.trans (Qbi HEK.o HPV.o (Qw3 (by rw[HAT.o];exact h3)))).symm);clear h2 h3;exact Zak
    have t3:decide (nn≤y)=false:=decide_eq_false h3;cases h4:Qfq ⟨(j:Int),ss,sn,wt,ck,ou⟩ ⟨(i:Int),nn,nd,dd⟩ with
    |true=>
     have HR:=hH (show true=Qcw ⟨(j:Int),ss,sn,wt,ck,ou⟩ from(HI.o.symm.trans (Qbi HEK.o HPV.o (Qw4 h4))).symm);rw[h4] at HAH;clear h2 h3 h4;refine Qad (fun W2 eW2=> ?_);obtain⟨e0,e1,e2,e3,e4,e5,e6⟩:=rR7 eW2 w.heap.size (.int .i64 (j:Nat)) (.slice a1 n1 c1) (.slice a2 n2 c2) (.slice (some ⟨b,o,none⟩) 5 c3) (.slice (some ⟨g,q,none⟩) wt.length c4) (.int .i64 ck) (.slice a5 ou.length c5);obtain⟨f0,f1,f2,f3⟩:=rR4 eW2 wr.heap.size (.int .i64 (i:Nat)) (.int .i64 nn) (.slice b1 m1 k1) (.slice b2 m2 k2);have x1:=rL eW2 ⟨b,o+i,none⟩ (.int .i64 y);have zW2_0:=zE eW2 w.heap.size;have zW2_1:=zE eW2 wr.heap.size;have zW2_2:=zE eW2 b;have zW2_3:=zE eW2 g;have hw2:=xE wr eW2;clear eW2;refine Qaa fol kR (fun hlater=> ?_);repeat(go_big_quiet_step ((first
       |(go_at_call 156;(with_reducible exact Qah (HAH.o _ (ext_trans hw2 (Later.ext _))))))))
     refine wpQuiet_nil ?_;rintro w3 ⟨⟨w3x,hx3⟩,rfl⟩;clear hlater;go_wp2_with fail
     go_ret;exact⟨rb HR.o,ext_trans HXW.o (ext_trans hw2 hx3)⟩
    |false=>
     rw[h4] at HAH;cases h5':Qb5 sn ⟨(i:Int),nn,nd,dd⟩ with
     |true=>
      have HR:=hH (show true=Qcw ⟨(j:Int),ss,sn,wt,ck,ou⟩ from(HI.o.symm.trans (Qbi HEK.o HPV.o (Qw5 h5'))).symm);rw[h5'] at HMA;clear h2 h3 h4 h5';refine Qad (fun W2 eW2=> ?_);obtain⟨e0,e1,e2,e3,e4,e5,e6⟩:=rR7 eW2 w.heap.size (.int .i64 (j:Nat)) (.slice a1 n1 c1) (.slice a2 n2 c2) (.slice (some ⟨b,o,none⟩) 5 c3) (.slice (some ⟨g,q,none⟩) wt.length c4) (.int .i64 ck) (.slice a5 ou.length c5);obtain⟨f0,f1,f2,f3⟩:=rR4 eW2 wr.heap.size (.int .i64 (i:Nat)) (.int .i64 nn) (.slice b1 m1 k1) (.slice b2 m2 k2);have x1:=rL eW2 ⟨b,o+i,none⟩ (.int .i64 y);have zW2_0:=zE eW2 w.heap.size;have zW2_1:=zE eW2 wr.heap.size;have zW2_2:=zE eW2 b;have zW2_3:=zE eW2 g;have hw2:=xE wr eW2;clear eW2;refine Qaa fol kR (fun hlater=> ?_);repeat(go_big_quiet_step ((first
        |(go_at_call 156;(with_reducible exact Qah (HAH.o _ (ext_trans hw2 (Later.ext _)))))
        |(go_at_call 144;(with_reducible exact Qah (HMA.o _ (ext_trans hw2 (Later.ext _))))))))
      refine wpQuiet_nil ?_;rintro w3 ⟨⟨w3x,hx3⟩,rfl⟩;clear hlater;go_wp2_with fail
      go_ret;exact⟨rb HR.o,ext_trans HXW.o (ext_trans hw2 hx3)⟩
     |false=>
      rw[h5'] at HMA;have HR:=hH (show Qf8 (j:Int) sn (Qfh wt (k+1)) (wt.drop (k+1))=Qcw ⟨(j:Int),ss,sn,wt,ck,ou⟩ from((Qls HEK.o HPV.o (Qro sI h2 (by rw[HAT.o];exact h3) h4 h5')).symm.trans HI.o));clear h2 h3 h4 h5';refine Qad (fun W2 eW2=> ?_);obtain⟨e0,e1,e2,e3,e4,e5,e6⟩:=rR7 eW2 w.heap.size (.int .i64 (j:Nat)) (.slice a1 n1 c1) (.slice a2 n2 c2) (.slice (some ⟨b,o,none⟩) 5 c3) (.slice (some ⟨g,q,none⟩) wt.length c4) (.int .i64 ck) (.slice a5 ou.length c5);obtain⟨f0,f1,f2,f3⟩:=rR4 eW2 wr.heap.size (.int .i64 (i:Nat)) (.int .i64 nn) (.slice b1 m1 k1) (.slice b2 m2 k2);have x1:=rL eW2 ⟨b,o+i,none⟩ (.int .i64 y);have zW2_0:=zE eW2 w.heap.size;have zW2_1:=zE eW2 wr.heap.size;have zW2_2:=zE eW2 b;have zW2_3:=zE eW2 g;have hw2:=xE wr eW2;clear eW2;refine Qaa fol kR (fun hlater=> ?_);repeat(go_big_quiet_step ((first
        |(go_at_call 156;(with_reducible exact Qah (HAH.o _ (ext_trans hw2 (Later.ext _)))))
        |(go_at_call 144;(with_reducible exact Qah (HMA.o _ (ext_trans hw2 (Later.ext _))))))))
      refine wpQuiet_nil ?_;exact Zao
   ·have hk1:0<k:=oM;have t8:decide (0<(k:Int))=true:=decide_eq_true oM;have t8b:decide (0<k)=true:=decide_eq_true oM;clear hk0;obtain⟨g',q',pn,b3,m3,k3,b4,m4,k4,ea,_,ekp,hpd,u0,u1,u2,u3⟩:=Qdj (HW.o wr HXW.o) (i:=k-1) oM;obtain⟨rfl,rfl⟩:g=g'∧q=q':=by injection ea with ea;injection ea with ea1 ea2;exact⟨ea1,ea2⟩
    have HPV:=hH (show Qfh wt k=some pn by unfold Qfh;rw[if_neg oM];exact ekp);have HOR:=hH (fun(W:World) (hx:Ext wr W)=>Qma (gNo.ext hpd hx) (gNo.ext HND.o hx));clear ea ekp hpd;have hor:=Qer pn ⟨(i:Int),nn,nd,dd⟩;by_cases h1:0≤Qdz pn ⟨(i:Int),nn,nd,dd⟩
    ·have HR:=hH (show true=Qcw ⟨(j:Int),ss,sn,wt,ck,ou⟩ from(HI.o.symm.trans (Qbi HEK.o HPV.o (Q73 h1))).symm);clear hor;generalize Qdz pn ⟨(i:Int),nn,nd,dd⟩=on at *;have t1:decide (0≤on)=true:=decide_eq_true h1;clear h1;go_wp2_with fail
     refine Qad (fun W2 eW2=> ?_);exact Zad
    ·have HO1:=hH (show Qdz pn ⟨(i:Int),nn,nd,dd⟩= -1 by omega);rw[HO1.o] at HOR;clear hor h1;go_wp2_with fail
     by_cases h2:(i:Int)=(j:Int)
     ·have t2:((i:Int)==(j:Int))=true:=by simpa using h2
      have t2':((i:Nat)==(j:Nat))=true:=sP;have HR:=hH (show true=Qcw ⟨(j:Int),ss,sn,wt,ck,ou⟩ from(HI.o.symm.trans (Qbi HEK.o HPV.o (Qw2 h2))).symm);clear h2;refine Qad (fun W2 eW2=> ?_);exact Zad
     have t2:((i:Int)==(j:Int))=false:=by simpa using h2
     have t2':((i:Nat)==(j:Nat))=false:=sP;by_cases h3:nn≤y
     ·have t3:decide (nn≤y)=true:=decide_eq_true h3;have HR:=hH (show true=Qcw ⟨(j:Int),ss,sn,wt,ck,ou⟩ from(HI.o.symm.trans (Qbi HEK.o HPV.o (Qw3 (by rw[HAT.o];exact h3)))).symm);clear h2 h3;refine Qad (fun W2 eW2=> ?_);exact Zad
     have t3:decide (nn≤y)=false:=decide_eq_false h3;cases h4:Qfq ⟨(j:Int),ss,sn,wt,ck,ou⟩ ⟨(i:Int),nn,nd,dd⟩ with
     |true=>
      have HR:=hH (show true=Qcw ⟨(j:Int),ss,sn,wt,ck,ou⟩ from(HI.o.symm.trans (Qbi HEK.o HPV.o (Qw4 h4))).symm);rw[h4] at HAH;clear h2 h3 h4;refine Qad (fun W2 eW2=> ?_);obtain⟨e0,e1,e2,e3,e4,e5,e6⟩:=rR7 eW2 w.heap.size (.int .i64 (j:Nat)) (.slice a1 n1 c1) (.slice a2 n2 c2) (.slice (some ⟨b,o,none⟩) 5 c3) (.slice (some ⟨g,q,none⟩) wt.length c4) (.int .i64 ck) (.slice a5 ou.length c5);obtain⟨f0,f1,f2,f3⟩:=rR4 eW2 wr.heap.size (.int .i64 (i:Nat)) (.int .i64 nn) (.slice b1 m1 k1) (.slice b2 m2 k2);have x1:=rL eW2 ⟨b,o+i,none⟩ (.int .i64 y);have p0:=rL eW2 ⟨g,q+(k-1) * 4,none⟩ (.int .i64 pn.site);have p1:=rL eW2 ⟨g,q+(k-1) * 4+1,none⟩ (.int .i64 pn.number);have p2:=rL eW2 ⟨g,q+(k-1) * 4+2,none⟩ (.slice b3 m3 k3);have p3:=rL eW2 ⟨g,q+(k-1) * 4+3,none⟩ (.slice b4 m4 k4);have zW2_0:=zE eW2 w.heap.size;have zW2_1:=zE eW2 wr.heap.size;have zW2_2:=zE eW2 b;have zW2_3:=zE eW2 g;have hw2:=xE wr eW2;clear eW2;refine Qaa fol kR (fun hlater=> ?_);repeat(go_big_quiet_step ((first
        |(go_at_call 155;(with_reducible exact Qah (HOR.o _ (ext_trans hw2 (Later.ext _)))))
        |(go_at_call 156;(with_reducible exact Qah (HAH.o _ (ext_trans hw2 (Later.ext _))))))))
      refine wpQuiet_nil ?_;rintro w3 ⟨⟨w3x,hx3⟩,rfl⟩;clear hlater;go_wp2_with fail
      go_ret;exact⟨rb HR.o,ext_trans HXW.o (ext_trans hw2 hx3)⟩
     |false=>
      rw[h4] at HAH;cases h5':Qb5 sn ⟨(i:Int),nn,nd,dd⟩ with
      |true=>
       have HR:=hH (show true=Qcw ⟨(j:Int),ss,sn,wt,ck,ou⟩ from(HI.o.symm.trans (Qbi HEK.o HPV.o (Qw5 h5'))).symm);rw[h5'] at HMA;clear h2 h3 h4 h5';refine Qad (fun W2 eW2=> ?_);obtain⟨e0,e1,e2,e3,e4,e5,e6⟩:=rR7 eW2 w.heap.size (.int .i64 (j:Nat)) (.slice a1 n1 c1) (.slice a2 n2 c2) (.slice (some ⟨b,o,none⟩) 5 c3) (.slice (some ⟨g,q,none⟩) wt.length c4) (.int .i64 ck) (.slice a5 ou.length c5);obtain⟨f0,f1,f2,f3⟩:=rR4 eW2 wr.heap.size (.int .i64 (i:Nat)) (.int .i64 nn) (.slice b1 m1 k1) (.slice b2 m2 k2);have x1:=rL eW2 ⟨b,o+i,none⟩ (.int .i64 y);have p0:=rL eW2 ⟨g,q+(k-1) * 4,none⟩ (.int .i64 pn.site);have p1:=rL eW2 ⟨g,q+(k-1) * 4+1,none⟩ (.int .i64 pn.number);have p2:=rL eW2 ⟨g,q+(k-1) * 4+2,none⟩ (.slice b3 m3 k3);have p3:=rL eW2 ⟨g,q+(k-1) * 4+3,none⟩ (.slice b4 m4 k4);have zW2_0:=zE eW2 w.heap.size;have zW2_1:=zE eW2 wr.heap.size;have zW2_2:=zE eW2 b;have zW2_3:=zE eW2 g;have hw2:=xE wr eW2;clear eW2;refine Qaa fol kR (fun hlater=> ?_);repeat(go_big_quiet_step ((first
         |(go_at_call 155;(with_reducible exact Qah (HOR.o _ (ext_trans hw2 (Later.ext _)))))
         |(go_at_call 156;(with_reducible exact Qah (HAH.o _ (ext_trans hw2 (Later.ext _)))))
         |(go_at_call 144;(with_reducible exact Qah (HMA.o _ (ext_trans hw2 (Later.ext _))))))))
       refine wpQuiet_nil ?_;rintro w3 ⟨⟨w3x,hx3⟩,rfl⟩;clear hlater;go_wp2_with fail
       go_ret;exact⟨rb HR.o,ext_trans HXW.o (ext_trans hw2 hx3)⟩
      |false=>
       rw[h5'] at HMA;have HR:=hH (show Qf8 (j:Int) sn (Qfh wt (k+1)) (wt.drop (k+1))=Qcw ⟨(j:Int),ss,sn,wt,ck,ou⟩ from((Qls HEK.o HPV.o (Qro (by rintro _ ⟨rfl⟩;exact HO1.o) h2 (by rw[HAT.o];exact h3) h4 h5')).symm.trans HI.o));clear h2 h3 h4 h5';refine Qad (fun W2 eW2=> ?_);obtain⟨e0,e1,e2,e3,e4,e5,e6⟩:=rR7 eW2 w.heap.size (.int .i64 (j:Nat)) (.slice a1 n1 c1) (.slice a2 n2 c2) (.slice (some ⟨b,o,none⟩) 5 c3) (.slice (some ⟨g,q,none⟩) wt.length c4) (.int .i64 ck) (.slice a5 ou.length c5);obtain⟨f0,f1,f2,f3⟩:=rR4 eW2 wr.heap.size (.int .i64 (i:Nat)) (.int .i64 nn) (.slice b1 m1 k1) (.slice b2 m2 k2);have x1:=rL eW2 ⟨b,o+i,none⟩ (.int .i64 y);have p0:=rL eW2 ⟨g,q+(k-1) * 4,none⟩ (.int .i64 pn.site);have p1:=rL eW2 ⟨g,q+(k-1) * 4+1,none⟩ (.int .i64 pn.number);have p2:=rL eW2 ⟨g,q+(k-1) * 4+2,none⟩ (.slice b3 m3 k3);have p3:=rL eW2 ⟨g,q+(k-1) * 4+3,none⟩ (.slice b4 m4 k4);have zW2_0:=zE eW2 w.heap.size;have zW2_1:=zE eW2 wr.heap.size;have zW2_2:=zE eW2 b;have zW2_3:=zE eW2 g;have hw2:=xE wr eW2;clear eW2;refine Qaa fol kR (fun hlater=> ?_);repeat(go_big_quiet_step ((first
         |(go_at_call 155;(with_reducible exact Qah (HOR.o _ (ext_trans hw2 (Later.ext _)))))
         |(go_at_call 156;(with_reducible exact Qah (HAH.o _ (ext_trans hw2 (Later.ext _)))))
         |(go_at_call 144;(with_reducible exact Qah (HMA.o _ (ext_trans hw2 (Later.ext _))))))))
       refine wpQuiet_nil ?_;exact Zao
  ·have hke:wt.drop k=[]:=List.drop_eq_nil_of_le oM;have HR:=hH (show false=Qcw ⟨(j:Int),ss,sn,wt,ck,ou⟩ by rw[←HI.o,hke];rfl);clear hke;go_wp2_with fail
   go_ret;exact⟨rb HR.o,HXW.o⟩
section
variable {d:Dk}
theorem Qj4 (h:inB d.site 0 4=false):Qde d=3:=by unfold Qde;rw[if_pos h]
theorem Qiq (h:inB d.site 0 4=true) (h2:¬Qax d.state=0):Qde d=Qax d.state:=by unfold Qde;rw[if_neg (by rw[h];simp),if_pos h2]
theorem Qj3 (h:inB d.site 0 4=true) (h2:Qax d.state=0) (h3:¬Qbx d.seen=0):Qde d=Qbx d.seen:=by unfold Qde;rw[if_neg (by rw[h];simp),if_neg (by simpa using h2),if_pos h3]
theorem Qj2 (h:inB d.site 0 4=true) (h2:Qax d.state=0) (h3:Qbx d.seen=0) (h4:40<d.waits.length∨500<d.out.length):Qde d=2:=by unfold Qde;rw[if_neg (by rw[h];simp),if_neg (by simpa using h2),if_neg (by simpa using h3),if_pos h4]
theorem Qo5 (h:inB d.site 0 4=true) (h2:Qax d.state=0) (h3:Qbx d.seen=0) (h4:¬(40<d.waits.length∨500<d.out.length)):Qde d=Qc2 (d.waits++d.out):=by unfold Qde;rw[if_neg (by rw[h];simp),if_neg (by simpa using h2),if_neg (by simpa using h3),if_neg h4]
theorem Qed (h:¬Qde d=0):Qaq d=Qde d:=by unfold Qaq;rw[if_pos h]
theorem Qba (h:Qde d=0) (h2:Qcw d=true∨Qpw d=false∨d.clock≤Qdv d):Qaq d=4:=by unfold Qaq;rw[if_neg (by simpa using h),if_pos h2]
theorem Qmr (h:Qde d=0) (h2:Qcw d=false) (h3:Qpw d=true) (h4:¬d.clock≤Qdv d):Qaq d=if inB d.clock 1 10001=false then 3 else 0:=by unfold Qaq;rw[if_neg (by simpa using h),if_neg (by rw[h2,h3];simp;omega)]
end
theorem Qkz {p:Prop} (h:p:=by
 go_enter Tryz.func129,Tryz.ntmps129;go_wp2_with (first
  |(go_at_call 128;((with_reducible refine(Qfj _ _).mono ?_);rintro e w' ⟨rfl,rfl⟩))
  |(go_at_call 182;((with_reducible refine(HST.o _ Qac).mono ?_);rintro e w3 ⟨rfl,hx3⟩;have hz3:=hx3.size;(try simp at hz3);have hl3:=zL hx3 w.heap.size;obtain⟨c3_0,c3_1,c3_2,c3_3,c3_4,c3_5,c3_6⟩:=cC7 hx3 w.heap.size (.int .i64 st) (.slice a1 n1 c1) (.slice a2 n2 c2) (.slice a3 n3 c3) (.slice a4 wt.length c4) (.int .i64 ck) (.slice a5 ou.length c5);have HX3:=xY w hx3))
  |(go_at_call 76;((with_reducible refine(HSE.o _ (ext_trans HX3.o Qac)).mono ?_);rintro e w4 ⟨rfl,hx4⟩;have hz4:=hx4.size;(try simp at hz4);have hl4:=zL hx4 w.heap.size;obtain⟨c4_0,c4_1,c4_2,c4_3,c4_4,c4_5,c4_6⟩:=cC7 hx4 w.heap.size (.int .i64 st) (.slice a1 n1 c1) (.slice a2 n2 c2) (.slice a3 n3 c3) (.slice a4 wt.length c4) (.int .i64 ck) (.slice a5 ou.length c5);have HX4:=xX HX3 hx4))
  |(go_at_call 183;((with_reducible refine(HCO.o _ (ext_trans HX4.o Qac) _ gS gS).mono ?_);rintro e w5 ⟨v5,rfl,ho5,hx5⟩;obtain⟨a8,n8,c8,rfl⟩:=Qab ho5;obtain rfl:n8=al.length:=(Qa2 ho5).1;have HO5:=hH ho5;have HX5:=xX HX4 hx5;clear ho5)))
 first
 |(
   clear zqa;go_ret;exact⟨rfl,ext_trans HX4.o Qac⟩
   done)
 |(
   clear zqb;go_ret;exact⟨rfl,ext_trans HX3.o Qac⟩
   done)
 |(
   clear zqc;have HO:=hH (Qaz gNo HO5.o (G:=fun _=>True) (fun _ _ _=>trivial) (fun _ _=>trivial));clear HO5 t1 t2;go_loopw [41] (fun iv wr=>∃k:Nat,k≤al.length∧iv= .int .i64 k∧Hid (Qc2 (al.drop k)=Qc2 al)∧Hid (Ext w5 wr)) (fun iv _=>al.length-(intOf iv).toNat)
   case atStart=>exact⟨0,Nat.zero_le _,rfl,hH rfl,hH Qac⟩
   case round=>
    obtain⟨k,hk,rfl,HI,HX⟩:=hrel;by_cases hlt:k<al.length
    ·obtain⟨g,q,d,b1,m1,k1,b2,m2,k2,rfl,hgb,ek,hnd,s0,s1,s2,s3⟩:=Qdj (HO.o.ext gNo HX.o) hlt;have HWC:=hH (fun(W:World) (hx:Ext wr W)=>Qjl (gNo.ext hnd hx));have hi:=HI.o;rw[Qms ek] at hi;have hgn:¬g=wr.heap.size:=oM;clear ek hnd;by_cases h1:Qa0 d=0
     ·have HN:=hH (show Qc2 (al.drop (k+1))=Qc2 al by rw[←hi,if_neg (by simpa using h1)]);rw[h1] at HWC;clear hi h1;go_wp2_with ((go_at_call 74;((with_reducible refine(HWC.o _ Qac).mono ?_);rintro e w6 ⟨rfl,hx6⟩;have hz6:=hx6.size;(try simp at hz6))))
      go_roundw
      case rel=>exact⟨k+1,hlt,by go_num,HN,hH (ext_trans HX.o (ext_trans Qac hx6))⟩
      case measure=>simp[intOf];omega
     ·have HN:=hH (show Qa0 d=Qc2 al by rw[←hi,if_pos h1]);have t3:(Qa0 d !=0)=true:=by simpa using h1
      clear hi h1;generalize Qa0 d=er at *;go_wp2_with ((go_at_call 74;((with_reducible refine(HWC.o _ Qac).mono ?_);rintro e w6 ⟨rfl,hx6⟩;have hz6:=hx6.size;(try simp at hz6))))
      go_ret;exact⟨ri HN.o,ext_trans HX5.o (ext_trans HX.o (ext_trans Qac hx6))⟩
    ·have HN:=hH (show 0=Qc2 al by rw[←HI.o,List.drop_eq_nil_of_le oM];rfl);go_wp2_with fail
     go_ret;exact⟨ri HN.o,ext_trans HX5.o HX.o⟩
   done)):p:=h
theorem Q3i {F:Nat→Prop} {w:World} {cs:List Value} {d:Dk} (h:RDk F w cs d):
  Calls Tryz.prog 129 #[.agg cs.toArray] w fun e w'=>e= .returned (.int .i64 (Qde d))∧Ext w w':=by
 obtain⟨va,vg,vs,vw,vo,rfl,_,ha,hg,hq,hw,_,ho⟩:=h;obtain⟨st,ss,sn,wt,ck,ou⟩:=d;simp only at ha hg hq hw ho ⊢;obtain⟨a1,n1,c1,rfl⟩:=ha.slice;obtain⟨a2,n2,c2,rfl⟩:=hg.slice;obtain⟨a3,n3,c3,rfl⟩:=hq.slice;obtain⟨a4,n4,c4,rfl⟩:=hw.slice;obtain⟨a5,n5,c5,rfl⟩:=ho.slice;obtain rfl:n4=wt.length:=hw.len.1;obtain rfl:n5=ou.length:=ho.len.1;have HST:=hH (fun(W:World) (hx:Ext w W)=>Qeg (Qh1 (ha.ext gAt hx) (hg.ext gMk hx)));have HSE:=hH (fun(W:World) (hx:Ext w W)=>(Qyo (hq.ext Qd6 hx)));cases g1:inB st 0 4 with
 |false=>
  have HR:=hH (Qj4 (d:=⟨st,ss,sn,wt,ck,ou⟩) g1);rw[HR.o];clear ha hg hq hw ho HR;go_enter Tryz.func129,Tryz.ntmps129;go_wp2_with (go_at_call 128;((with_reducible refine(Qfj _ _).mono ?_);rintro e w' ⟨rfl,rfl⟩))
  go_ret;exact⟨rfl,Qac⟩
 |true=>
  by_cases g2:Qax ss=0
  ·by_cases g3:Qbx sn=0
   ·by_cases g4:40<wt.length∨500<ou.length
    ·have HR:=hH (Qj2 (d:=⟨st,ss,sn,wt,ck,ou⟩) g1 g2 g3 g4);rw[HR.o];have g2':Qax (ss.1,ss.2)=0:=g2;rw[g2'] at HST;rw[g3] at HSE;clear ha hg hq hw ho HR g2 g2' g3;by_cases g5:40<wt.length
     ·have t1:decide ((40:Int)<(wt.length:Int))=true:=decide_eq_true oM;clear g4 g5;have zqa:=trivial;exact Qkz
     ·have t1:decide ((40:Int)<(wt.length:Int))=false:=decide_eq_false oM;have t2:decide ((500:Int)<(ou.length:Int))=true:=decide_eq_true oM;clear g4 g5;have zqa:=trivial;exact Qkz
    ·have HR:=hH (Qo5 (d:=⟨st,ss,sn,wt,ck,ou⟩) g1 g2 g3 g4);have HCO:=hH (fun(W:World) (hx:Ext w W) (q:Nat) h0 h1=>Qok (g:=q) (hw.ext gNo hx) (ho.ext gNo hx) h0 h1 oM oM);have hal:(wt++ou).length≤1000:=by rw[List.length_append];omega
     rw[HR.o];have t1:decide ((40:Int)<(wt.length:Int))=false:=decide_eq_false oM;have t2:decide ((500:Int)<(ou.length:Int))=false:=decide_eq_false oM;have g2':Qax (ss.1,ss.2)=0:=g2;rw[g2'] at HST;rw[g3] at HSE;clear ha hg hq hw ho HR g2 g2' g3 g4;generalize wt++ou=al at *;have zqc:=trivial;exact Qkz
   ·have HR:=hH (Qj3 (d:=⟨st,ss,sn,wt,ck,ou⟩) g1 g2 g3);rw[HR.o];have t3:(Qbx sn !=0)=true:=by simpa using g3
    have g2':Qax (ss.1,ss.2)=0:=g2;rw[g2'] at HST;clear ha hg hq hw ho HR g2 g2' g3;simp only;generalize Qbx sn=er at *;have zqa:=trivial;exact Qkz
  ·have HR:=hH (Qiq (d:=⟨st,ss,sn,wt,ck,ou⟩) g1 g2);rw[HR.o];have t3:(Qax ss !=0)=true:=by simpa using g2
   clear ha hg hq hw ho HR g2;simp only;generalize Qax ss=er at *;have zqb:=trivial;exact Qkz
theorem Qnl {p:Prop} (h:p:=by
 go_enter Tryz.func55,Tryz.ntmps55;go_wp2_with (go_at_call 129;((with_reducible refine(HPA.o _ Qac).mono ?_);rintro e w3 ⟨rfl,hx3⟩;have hz3:=hx3.size;(try simp at hz3);have hl3:=zL hx3 w.heap.size;obtain⟨c3_0,c3_1,c3_2,c3_3,c3_4,c3_5,c3_6⟩:=cC7 hx3 w.heap.size (.int .i64 st) (.slice a1 n1 c1) (.slice a2 n2 c2) (.slice a3 n3 c3) (.slice a4 n4 c4) (.int .i64 ck) (.slice a5 n5 c5);have HX3:=xY w hx3))
 refine Qad (fun W2 eW2=> ?_);obtain⟨e0,e1,e2,e3,e4,e5,e6⟩:=rR7 eW2 w.heap.size (.int .i64 st) (.slice a1 n1 c1) (.slice a2 n2 c2) (.slice a3 n3 c3) (.slice a4 n4 c4) (.int .i64 ck) (.slice a5 n5 c5);have zW2_0:=zE eW2 w.heap.size;have hw2:=xE w eW2 (ext_trans HX3.o Qac);clear eW2;refine Qaa fol kR (fun hlater=> ?_);repeat(go_big_quiet_step ((first
   |(go_at_call 130;(with_reducible exact Qah (HWR.o _ (ext_trans hw2 (Later.ext _)))))
   |(go_at_call 131;(with_reducible exact Qah (HOU.o _ (ext_trans hw2 (Later.ext _)))))
   |(go_at_call 132;(with_reducible exact Qah (HLA.o _ (ext_trans hw2 (Later.ext _))))))))
 refine wpQuiet_nil ?_;rintro w4 ⟨⟨w4x,hx4⟩,rfl⟩;clear hlater;have HX4:=hH (ext_trans hw2 hx4);obtain⟨d0,d1,d2,d3,d4,d5,d6⟩:=cC7 hx4 w.heap.size (.int .i64 st) (.slice a1 n1 c1) (.slice a2 n2 c2) (.slice a3 n3 c3) (.slice a4 n4 c4) (.int .i64 ck) (.slice a5 n5 c5);go_wp2_with fail
 go_ret;exact⟨rfl,ext_trans HX4.o Qac⟩):p:=h
theorem Za7 {p:Prop} (h:p:=by
 rintro w4 ⟨⟨w4x,hx4⟩,rfl⟩;clear hlater;have HX4:=hH (ext_trans hw2 hx4);obtain⟨d0,d1,d2,d3,d4,d5,d6⟩:=cC7 hx4 w.heap.size (.int .i64 st) (.slice a1 n1 c1) (.slice a2 n2 c2) (.slice a3 n3 c3) (.slice a4 n4 c4) (.int .i64 ck) (.slice a5 n5 c5);go_wp2_with fail
 go_ret;exact⟨rfl,ext_trans HX4.o Qac⟩):p:=h
theorem Qfk {F:Nat→Prop} {w:World} {cs:List Value} {d:Dk} (h:RDk F w cs d):
  Calls Tryz.prog 55 #[.agg cs.toArray] w fun e w'=>e= .returned (.int .i64 (Qaq d))∧Ext w w':=by
 have hD:=h;obtain⟨va,vg,vs,vw,vo,rfl,_,ha,hg,hq,hw,ick,ho⟩:=h;obtain⟨st,ss,sn,wt,ck,ou⟩:=d;simp only at ha hg hq hw ho ick hD ⊢;obtain⟨a1,n1,c1,rfl⟩:=ha.slice;obtain⟨a2,n2,c2,rfl⟩:=hg.slice;obtain⟨a3,n3,c3,rfl⟩:=hq.slice;obtain⟨a4,n4,c4,rfl⟩:=hw.slice;obtain⟨a5,n5,c5,rfl⟩:=ho.slice;clear ha hg hq hw ho;have HPA:=hH (fun(W:World) (hx:Ext w W)=>Q3i (gDk.ext hD hx));by_cases g1:Qde ⟨st,ss,sn,wt,ck,ou⟩=0
 ·rw[g1] at HPA;obtain⟨p1,p2,p3,p4,p5,p6⟩:=partsK_ok.1 g1;rw[checkNL_ok] at p6;have p1':=inB_iff.1 p1;have HWR:=hH (fun(W:World) (hx:Ext w W)=>Q4q (gDk.ext hD hx) p1' p3 (Nat.le_trans p4 oM) (fun n hn=>p6 n (List.mem_append_left _ hn)));have HOU:=hH (fun(W:World) (hx:Ext w W)=>Q97 (gDk.ext hD hx) p1' p3 p5);have HLA:=hH (fun(W:World) (hx:Ext w W)=>Q6d (gDk.ext hD hx) p1' (checkS_fit.1 p2) (Nat.le_trans p4 oM) p5 p6);clear hD p1 p2 p3 p4 p5 p6 p1';cases g2:Qcw ⟨st,ss,sn,wt,ck,ou⟩ with
  |true=>
   rw[g2] at HWR;rw[Qba g1 (.inl g2)];clear g1 g2;go_enter Tryz.func55,Tryz.ntmps55;go_wp2_with (go_at_call 129;((with_reducible refine(HPA.o _ Qac).mono ?_);rintro e w3 ⟨rfl,hx3⟩;have hz3:=hx3.size;(try simp at hz3);have hl3:=zL hx3 w.heap.size;obtain⟨c3_0,c3_1,c3_2,c3_3,c3_4,c3_5,c3_6⟩:=cC7 hx3 w.heap.size (.int .i64 st) (.slice a1 n1 c1) (.slice a2 n2 c2) (.slice a3 n3 c3) (.slice a4 n4 c4) (.int .i64 ck) (.slice a5 n5 c5);have HX3:=xY w hx3))
   refine Qad (fun W2 eW2=> ?_);obtain⟨e0,e1,e2,e3,e4,e5,e6⟩:=rR7 eW2 w.heap.size (.int .i64 st) (.slice a1 n1 c1) (.slice a2 n2 c2) (.slice a3 n3 c3) (.slice a4 n4 c4) (.int .i64 ck) (.slice a5 n5 c5);have zW2_0:=zE eW2 w.heap.size;have hw2:=xE w eW2 (ext_trans HX3.o Qac);clear eW2;refine Qaa fol kR (fun hlater=> ?_);repeat(go_big_quiet_step ((first
     |(go_at_call 130;(with_reducible exact Qah (HWR.o _ (ext_trans hw2 (Later.ext _))))))))
   refine wpQuiet_nil ?_;exact Za7
  |false=>
   rw[g2] at HWR;cases g3:Qpw ⟨st,ss,sn,wt,ck,ou⟩ with
   |false=>
    rw[g3] at HOU;rw[Qba g1 (.inr (.inl g3))];clear g1 g2 g3;go_enter Tryz.func55,Tryz.ntmps55;go_wp2_with (go_at_call 129;((with_reducible refine(HPA.o _ Qac).mono ?_);rintro e w3 ⟨rfl,hx3⟩;have hz3:=hx3.size;(try simp at hz3);have hl3:=zL hx3 w.heap.size;obtain⟨c3_0,c3_1,c3_2,c3_3,c3_4,c3_5,c3_6⟩:=cC7 hx3 w.heap.size (.int .i64 st) (.slice a1 n1 c1) (.slice a2 n2 c2) (.slice a3 n3 c3) (.slice a4 n4 c4) (.int .i64 ck) (.slice a5 n5 c5);have HX3:=xY w hx3))
    refine Qad (fun W2 eW2=> ?_);obtain⟨e0,e1,e2,e3,e4,e5,e6⟩:=rR7 eW2 w.heap.size (.int .i64 st) (.slice a1 n1 c1) (.slice a2 n2 c2) (.slice a3 n3 c3) (.slice a4 n4 c4) (.int .i64 ck) (.slice a5 n5 c5);have zW2_0:=zE eW2 w.heap.size;have hw2:=xE w eW2 (ext_trans HX3.o Qac);clear eW2;refine Qaa fol kR (fun hlater=> ?_);repeat(go_big_quiet_step ((first
      |(go_at_call 130;(with_reducible exact Qah (HWR.o _ (ext_trans hw2 (Later.ext _)))))
      |(go_at_call 131;(with_reducible exact Qah (HOU.o _ (ext_trans hw2 (Later.ext _))))))))
    refine wpQuiet_nil ?_;exact Za7
   |true=>
    rw[g3] at HOU;by_cases g4:ck≤Qdv ⟨st,ss,sn,wt,ck,ou⟩
    ·rw[Qba g1 (.inr (.inr g4))];generalize Qdv ⟨st,ss,sn,wt,ck,ou⟩=la at *;have t4:decide (ck≤la)=true:=decide_eq_true g4;clear g1 g2 g3 g4;exact Qnl
    ·rw[Qmr g1 g2 g3 g4];simp only;generalize Qdv ⟨st,ss,sn,wt,ck,ou⟩=la at *;have t4:decide (ck≤la)=false:=decide_eq_false g4;by_cases h1:ck<1
     ·rw[if_pos (by unfold inB;rw[decide_eq_false oM];rfl)];have t5:decide (ck<1)=true:=decide_eq_true h1;clear g1 g2 g3 g4 h1;exact Qnl
     ·have t5:decide (ck<1)=false:=decide_eq_false h1;by_cases h2:10001<ck
      ·rw[if_pos (by unfold inB;rw[decide_eq_false (by omega:¬ck≤10001)];simp)];have t6:decide (10001<ck)=true:=decide_eq_true h2;clear g1 g2 g3 g4 h1 h2;exact Qnl
      ·rw[if_neg (by rw[inB_iff.2 ⟨oM,oM⟩];simp)];have t6:decide (10001<ck)=false:=decide_eq_false h2;clear g1 g2 g3 g4 h1 h2;exact Qnl
 ·have HR:=hH (Qed g1);rw[HR.o];have t3:(Qde ⟨st,ss,sn,wt,ck,ou⟩ !=0)=true:=by simpa using g1
  clear hD g1 HR;generalize Qde ⟨st,ss,sn,wt,ck,ou⟩=er at *;go_enter Tryz.func55,Tryz.ntmps55;go_wp2_with (go_at_call 129;((with_reducible refine(HPA.o _ Qac).mono ?_);rintro e w3 ⟨rfl,hx3⟩;have hz3:=hx3.size;(try simp at hz3);have hl3:=zL hx3 w.heap.size;obtain⟨c3_0,c3_1,c3_2,c3_3,c3_4,c3_5,c3_6⟩:=cC7 hx3 w.heap.size (.int .i64 st) (.slice a1 n1 c1) (.slice a2 n2 c2) (.slice a3 n3 c3) (.slice a4 n4 c4) (.int .i64 ck) (.slice a5 n5 c5);have HX3:=xY w hx3))
  go_ret;exact⟨rfl,ext_trans HX3.o Qac⟩
end Go.Proofs.YtgnccjojfebkeaaGreat
