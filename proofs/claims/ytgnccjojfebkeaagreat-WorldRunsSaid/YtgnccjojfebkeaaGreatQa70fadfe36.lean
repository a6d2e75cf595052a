/- The mark so many behind one, by the reference. -/
import Derived.Test.YtgnccjojfebkeaaGreatQ463d8804a1
import Derived.IntWalk
import Derived.Test.YtgnccjojfebkeaaGreatQb497ca1fba
import Derived.Test.YtgnccjojfebkeaaGreatQ3471126dda
set_option linter.unusedVariables false
set_option linter.unusedSimpArgs false
set_option maxRecDepth 100000
set_option maxHeartbeats 4000000
namespace Go.Proofs.YtgnccjojfebkeaaGreat
open Go Go.RowKit Cp
theorem Qfp {F:Nat→Prop} {w:World} {cs:List Value} {m:Mk} {k:Int} (h:RMk F w cs m) (hsz:m.1.length≤8000000000000) (hne:m.1≠[])
  (hd:0≤Qa6 m.1∧Qa6 m.1≤1000) (hc:0≤m.2∧m.2≤20000) (hk:0≤k∧k≤1000):
  Calls Tryz.prog 179 #[.agg cs.toArray,.int .i64 k] w (Q0r (Qar m k) w):=by
 obtain⟨v,rfl,hl,hi64⟩:=h;obtain⟨l,c⟩:=m;simp only at hl hsz hne hd hc ⊢;obtain⟨a1,n1,c1,rfl⟩:=hl.slice;obtain⟨rfl,_,_⟩:=hl.len;have HL:=hH (fun(W:World) (hx:Ext w W)=>(hl.more Qap (G:=fun k=>k<w.heap.size) (fun _ _ hk=>hk)).ext Qap hx);clear hl hi64;have hlt:l.length-1<l.length:=by
  have:=List.length_pos_iff.2 hne;omega
 obtain⟨c0,c2⟩:=hc;obtain⟨k0,k2⟩:=hk;have HD:=hH hd;clear hd;obtain⟨i0,hi,hz0,hz1,hz2⟩:=info_parts Qkt;have HI:=hH hi;have HZ0:=hH hz0;have HZ1:=hH hz1;have HZ2:=hH hz2;clear hi hz0 hz1 hz2;go_enter Tryz.func179,Tryz.ntmps179;have hwr:IntKind.i64.wrap (c+k)=c+k:=IntWalk.i64_in _ oM;go_wp2_with fail
 go_region_held3 (fun W=>W.cell? ⟨w.heap.size,0,none⟩=some (.slice a1 l.length c1)∧W.cell? ⟨w.heap.size,1,none⟩=some (.int .i64 c))
  (first|go_keep|((try dsimp only);(repeat' apply And.intro);all_goals first|go_keep|(go_simp;done)|(rw[hxg.cells _ _ sO];go_simp)))
  (first
   |((refine Qa7 Qap rfl (.tmp 6) (.tmp 8) 101 rfl (w.heap.size+2) 196 i0 _ 2 16 Tryz.underlying101 HI.o HZ0.o HZ1.o HZ2.o rfl oM (F:=fun k=>k<w.heap.size) (G:=fun k=>k<w.heap.size) (.slice (some ⟨w.heap.size+1+1,0,none⟩) 0 0) [] rfl ?_ _ l rfl (HL.o _ (by repeat(first|exact ext_refl _|refine ext_drew ?_|refine ext_drewN ?_ _|refine ext_alloc ?_ _|refine ext_set ?_ sO _))) Ql8 (fun k hk _=>⟨hk,Qo1 (by first|omega|(simp<;>omega)|(simp only[maxLen,List.length_nil]<;>omega))⟩) (by first|omega|(simp<;>omega)|(simp only[maxLen,List.length_nil]<;>omega)) (by first|omega|(simp<;>omega)|(simp only[maxLen,List.length_nil]<;>omega)) (by first|omega|(simp<;>omega)|(simp only[maxLen,List.length_nil]<;>omega)) ?_;(· first|exact Qai Qap (Qg1 (by first|omega|(simp<;>omega)|(simp only[maxLen,List.length_nil]<;>omega)) (by first|omega|(simp<;>omega)|(simp only[maxLen,List.length_nil]<;>omega))) (ext_drew (ext_refl _))|exact Qai Qap (Qg1 (by first|omega|(simp<;>omega)|(simp only[maxLen,List.length_nil]<;>omega)) (by first|omega|(simp<;>omega)|(simp only[maxLen,List.length_nil]<;>omega))) (ext_drew (ext_alloc (ext_refl _) _)));intro v1 w1 hown1 hg1 hat1;have hxg:Ext ((w.alloc (.cells #[.slice a1 l.length c1,.int .i64 c] 103)).alloc (.cells #[.slice none 0 0,.int .i64 0] 103)) w1:=Qao (by repeat(first|exact ext_refl _|refine ext_drew ?_|refine ext_drewN ?_ _|refine ext_alloc ?_ _|refine ext_set ?_ sO _)) hg1 (fun k hk=>by have:=Qm1 hk;simp<;>omega);have hs1:w.heap.size+1<w1.heap.size:=(by have:=hxg.size;simp at this;omega);have hne1:¬w1.heap.size=w.heap.size:=oM;have hne2:¬w.heap.size=w1.heap.size:=oM;obtain⟨zb0,zb1⟩:=cC2 hxg w.heap.size (.slice a1 l.length c1) (.int .i64 c);have hq1:=Qcr hg1;have hq2:=Qts hg1;simp only[List.nil_append] at hown1;obtain⟨a3,n3,c3,rfl⟩:=Qab hown1;obtain⟨g3,s3,cs2,rfl,rfl,hg3,hg3',e3,_,hr3,hs3,hf3⟩:=Qlb hown1 hlt;obtain⟨x3,y3⟩:=s3;obtain⟨rfl,ix,iy⟩:=hs3;have z6:=hr3 0 _ rfl;have z7:=hr3 1 _ rfl;have z8:=hf3 ((l.length-1) * 2);simp only[Nat.add_zero] at z6 z7;have hd1:0≤x3:=(Qcp e3)▸HD.o.1;have hd2:x3≤1000:=(Qcp e3)▸HD.o.2;have HV1:=hH hown1;have HE3:=hH e3;have HG1:=hH hg1;obtain⟨y0,y1⟩:=cC2 hxg (w.heap.size+1) (.slice none 0 0) (.int .i64 0);have y2:=fL hxg (w.heap.size+1) 0;have y3f:=fL hxg (w.heap.size+1) 1;have hn1:¬g3=w.heap.size+1:=oM;have hn2:¬w.heap.size+1=g3:=oM;have hn3:¬g3=w1.heap.size:=oM;simp[Value.ownBlock] at hat1;(try have hn5:¬g3=w.heap.size+1+1+1:=oM);(try have hn6:¬w.heap.size+1+1+1=g3:=oM);clear hown1 e3 hr3 hf3 hg1 hat1))
   |((refine Qa7 Qap rfl (.tmp 6) (.tmp 8) 101 rfl (w.heap.size+2) 196 i0 _ 2 16 Tryz.underlying101 HI.o HZ0.o HZ1.o HZ2.o rfl oM (F:=fun k=>k<w.heap.size) (G:=fun k=>k<w.heap.size) (.slice (some ⟨w.heap.size+1+1+1,0,none⟩) 0 0) [] rfl ?_ _ l rfl (HL.o _ (by repeat(first|exact ext_refl _|refine ext_drew ?_|refine ext_drewN ?_ _|refine ext_alloc ?_ _|refine ext_set ?_ sO _))) Ql8 (fun k hk _=>⟨hk,Qo1 (by first|omega|(simp<;>omega)|(simp only[maxLen,List.length_nil]<;>omega))⟩) (by first|omega|(simp<;>omega)|(simp only[maxLen,List.length_nil]<;>omega)) (by first|omega|(simp<;>omega)|(simp only[maxLen,List.length_nil]<;>omega)) (by first|omega|(simp<;>omega)|(simp only[maxLen,List.length_nil]<;>omega)) ?_;(· first|exact Qai Qap (Qg1 (by first|omega|(simp<;>omega)|(simp only[maxLen,List.length_nil]<;>omega)) (by first|omega|(simp<;>omega)|(simp only[maxLen,List.length_nil]<;>omega))) (ext_drew (ext_refl _)));intro v1 w1 hown1 hg1 hat1;have hxg:Ext ((w.alloc (.cells #[.slice a1 l.length c1,.int .i64 c] 103)).alloc (.cells #[.slice none 0 0,.int .i64 0] 103)) w1:=Qao (by repeat(first|exact ext_refl _|refine ext_drew ?_|refine ext_drewN ?_ _|refine ext_alloc ?_ _|refine ext_set ?_ sO _)) hg1 (fun k hk=>by have:=Qm1 hk;simp<;>omega);have hs1:w.heap.size+1<w1.heap.size:=(by have:=hxg.size;simp at this;omega);have hne1:¬w1.heap.size=w.heap.size:=oM;have hne2:¬w.heap.size=w1.heap.size:=oM;obtain⟨zb0,zb1⟩:=cC2 hxg w.heap.size (.slice a1 l.length c1) (.int .i64 c);have hq1:=Qcr hg1;have hq2:=Qts hg1;simp only[List.nil_append] at hown1;obtain⟨a3,n3,c3,rfl⟩:=Qab hown1;obtain⟨g3,s3,cs2,rfl,rfl,hg3,hg3',e3,_,hr3,hs3,hf3⟩:=Qlb hown1 hlt;obtain⟨x3,y3⟩:=s3;obtain⟨rfl,ix,iy⟩:=hs3;have z6:=hr3 0 _ rfl;have z7:=hr3 1 _ rfl;have z8:=hf3 ((l.length-1) * 2);simp only[Nat.add_zero] at z6 z7;have hd1:0≤x3:=(Qcp e3)▸HD.o.1;have hd2:x3≤1000:=(Qcp e3)▸HD.o.2;have HV1:=hH hown1;have HE3:=hH e3;have HG1:=hH hg1;obtain⟨y0,y1⟩:=cC2 hxg (w.heap.size+1) (.slice none 0 0) (.int .i64 0);have y2:=fL hxg (w.heap.size+1) 0;have y3f:=fL hxg (w.heap.size+1) 1;have hn1:¬g3=w.heap.size+1:=oM;have hn2:¬w.heap.size+1=g3:=oM;have hn3:¬g3=w1.heap.size:=oM;simp[Value.ownBlock] at hat1;(try have hn5:¬g3=w.heap.size+1+1:=oM);(try have hn6:¬w.heap.size+1+1=g3:=oM);clear hown1 e3 hr3 hf3 hg1 hat1)))
 all_goals go_wp2
 all_goals refine bodyPost_end (v:= .agg #[.slice (some ⟨g3,0,none⟩) l.length c3,.int .i64 (c+k)]) (by simp[results,Tryz.results179,go_sem,y0,y1,hs1,hn1]) rfl ⟨[.slice (some ⟨g3,0,none⟩) l.length c3,.int .i64 (c+k)],rfl,⟨_,rfl,?_,?_⟩,?_⟩
 all_goals clear hwr
 all_goals first
  |(show OSl _ _ _ _ _ _ _ (Qb6 l k);rw[Qny HE3.o];repeat(first|(with_reducible refine Qzq Qxm ?_ _)|((with_reducible refine Qhx Qxm ?_ ?_ _);· first|assumption|omega|(simp<;>omega))|((with_reducible refine Q6x Qap ?_ hlt oM (Q32 (x':=x3+k) HE3.o (Qal oM oM))))|(with_reducible exact Qf3 Qi5 (Qcx oM HV1.o))))
  |exact Qal (by simp only[Qar];omega) (by simp only[Qar];omega)
  |(repeat(first|(with_reducible exact ext_refl _)|(with_reducible refine ext_drew ?_)|(with_reducible refine ext_alloc ?_ _)|(with_reducible refine ext_set ?_ ltA _)|(with_reducible refine Qan ?_ hxg)))
def Q0s (m:Mk) (er:Int) (w:World) (e:Ending) (w':World):Prop:=∃cs,e= .returned (.tuple #[.agg cs.toArray,.int .i64 er])∧RMk (fun k=>w.heap.size≤k) w' cs m∧Ext w w'
theorem Qcn {m:Mk} (h:Qaf m=0):m.1.length≤8000000000000:=by have:=(checkM_ok.1 h).1;omega
theorem Qew {m:Mk} (h:Qaf m=0):m.1≠[]:=(checkM_ok.1 h).2.1
theorem Qbu {m:Mk} (h:Qaf m=0):0≤m.2∧m.2≤20000:=by have:=(checkM_ok.1 h).2.2.2.2;omega
theorem Qc6 {m:Mk} (h:Qaf m=0):0≤Qa6 m.1∧Qa6 m.1≤1000:=by
 obtain⟨_,h2,h3,_⟩:=checkM_ok.1 h;obtain⟨q,s,e⟩:=Qf7 h2;rw[e] at h3 ⊢;rw[Qfe,Bool.or_eq_false_iff] at h3;rw[Qey];have:=badS_ok.1 h3.2;omega
theorem Qe6 {m:Mk} {k:Int} (h0:Qaf m=0) (h:k<0∨60<k):(Qb9 m k).2=3:=by unfold Qb9;rw[if_neg oM,if_pos h]
theorem Qk5 {m:Mk} {k:Int} (h0:Qaf m=0) (h1:0≤k) (h2:k≤60) (h3:¬Qaf (Qar m k)=0):(Qb9 m k).2=3:=by unfold Qb9;rw[if_neg oM,if_neg oM,if_pos h3]
theorem Qk6 {m:Mk} {k:Int} (h0:¬Qaf m=0):(Qb9 m k).2=Qaf m:=by unfold Qb9;rw[if_pos h0]
theorem Q0v {F G:Nat→Prop} {w w':World} {cs:List Value} {m:Mk} (h:RMk F w cs m) (hk:Keeps F w w') (hg:∀k,F k→G k):RMk G w' cs m:=gMk.more (fun k hk _=>hg k hk) (gMk.keep hk h)
theorem Qii {p:Prop} (h:p:=by
 go_enter Tryz.func192,Tryz.ntmps192;go_wp2_with (first
  |(go_at_call 191;((with_reducible refine(HC.o _ (by repeat(first|(with_reducible exact ext_refl _)|(with_reducible refine ext_drew ?_)|(with_reducible refine ext_drewN ?_ _)|(with_reducible refine ext_alloc ?_ _)|(with_reducible refine ext_set ?_ ltA _)))).mono ?_);rintro e w1 ⟨rfl,hx1⟩;obtain⟨m0,m1⟩:=cC2 hx1 (w.heap.size) (.slice a1 n1 c1) (.int .i64 c);have r0:=cL hx1 (w.heap.size+1) 0 (.slice none 0 0);have rf0:=fL hx1 (w.heap.size+1) 0;have r1:=cL hx1 (w.heap.size+1) 1 (.int .i64 0);have rf1:=fL hx1 (w.heap.size+1) 1;have HX1:=hH hx1;have hs1:=hx1.size;simp at hs1;clear hx1))
  |(go_at_call 199;go_must ((with_reducible refine(HA.o _ (by repeat(first|(with_reducible exact ext_refl _)|(with_reducible refine ext_drew ?_)|(with_reducible refine ext_drewN ?_ _)|(with_reducible refine ext_alloc ?_ _)|(with_reducible refine ext_set ?_ ltA _)|(with_reducible refine Qan ?_ HX1.o)))).mono ?_);rintro e w2 ⟨cs2,rfl,hm2,hx2⟩;have HM2:=hH (Qem hm2);obtain⟨v2,rfl,hv2,_⟩:=hm2;obtain⟨a3,n3,c3,rfl⟩:=Qab hv2;have hx3:=Qan HX1.o hx2;have q0:=cL hx3 (w.heap.size+1) 0 (.slice none 0 0);have qf0:=fL hx3 (w.heap.size+1) 0;have q1:=cL hx3 (w.heap.size+1) 1 (.int .i64 0);have qf1:=fL hx3 (w.heap.size+1) 1;have HX3:=hH hx3;have hs2:=hx2.size;(try simp at hs2);clear hx2 hx3 hv2 m0 m1 r0 rf0 r1 rf1))
  |(go_at_call 191;go_must ((with_reducible refine(Qe4 (gMk.ext HM2.o (ext_alloc (ext_refl _) _))).mono ?_);rintro e w3 ⟨rfl,hx4⟩;obtain⟨b0,b1⟩:=cC2 hx4 w2.heap.size (.slice a3 n3 c3) (.int .i64 (c+k));have hx5:=Qan (Qan HX3.o (ext_alloc (ext_refl _) _)) hx4;clear q0 qf0 q1 qf1;have q0:=cL hx5 (w.heap.size+1) 0 (.slice none 0 0);have qf0:=fL hx5 (w.heap.size+1) 0;have q1:=cL hx5 (w.heap.size+1) 1 (.int .i64 0);have qf1:=fL hx5 (w.heap.size+1) 1;have HX5:=hH hx5;have HX4:=hH hx4;have hs3:=hx4.size;(try simp at hs3);clear hx4 hx5)))
 first
 |(
   clear zqa;all_goals refine bodyPost_ret (v:= .tuple #[.agg #[.slice none 0 0,.int .i64 0],.int .i64 3]) (by simp[results,Tryz.results192,go_sem,r0,r1,rf0,rf1,hs1]) rfl ⟨[.slice none 0 0,.int .i64 0],by rw[HE.o],by rw[HV.o];exact⟨_,rfl,RSl.nil_ (Nat.zero_le _),Qal sI sI⟩,(by repeat(first|(with_reducible exact ext_refl _)|(with_reducible refine ext_drew ?_)|(with_reducible refine ext_drewN ?_ _)|(with_reducible refine ext_alloc ?_ _)|(with_reducible refine ext_set ?_ ltA _)|(with_reducible refine Qan ?_ HX1.o)))⟩
   done)
 |(
   clear zqb;all_goals refine bodyPost_ret (v:= .tuple #[.agg #[.slice none 0 0,.int .i64 0],.int .i64 3]) (by simp[results,Tryz.results192,go_sem,q0,q1,qf0,qf1,hs1,hs2,hs3]) rfl ⟨[.slice none 0 0,.int .i64 0],by rw[HE.o],by rw[HV.o];exact⟨_,rfl,RSl.nil_ (Nat.zero_le _),Qal sI sI⟩,(by repeat(first|(with_reducible exact ext_refl _)|(with_reducible refine ext_drew ?_)|(with_reducible refine ext_drewN ?_ _)|(with_reducible refine ext_alloc ?_ _)|(with_reducible refine ext_set ?_ ltA _)|(with_reducible refine Qan ?_ HX5.o)))⟩
   done)
 |(
   clear zqc;all_goals refine bodyPost_ret (v:= .tuple #[.agg #[.slice none 0 0,.int .i64 0],.int .i64 (Qaf (l,c))]) (by simp[results,Tryz.results192,go_sem,r0,r1,rf0,rf1,hs1]) rfl ⟨[.slice none 0 0,.int .i64 0],by rw[HE.o],by rw[HV.o];exact⟨_,rfl,RSl.nil_ (Nat.zero_le _),Qal sI sI⟩,(by repeat(first|(with_reducible exact ext_refl _)|(with_reducible refine ext_drew ?_)|(with_reducible refine ext_drewN ?_ _)|(with_reducible refine ext_alloc ?_ _)|(with_reducible refine ext_set ?_ ltA _)|(with_reducible refine Qan ?_ HX1.o)))⟩
   done)
 |(
   clear zqd;all_goals refine bodyPost_ret (v:= .tuple #[.agg #[.slice a3 n3 c3,.int .i64 (c+k)],.int .i64 0]) (by simp[results,Tryz.results192,go_sem,q0,q1,b0,b1,qf0,qf1,hs1,hs2,hs3]) rfl ⟨[.slice a3 n3 c3,.int .i64 (c+k)],by rw[HE.o],by rw[HV.o];exact Q0v HM2.o (by repeat(first|(with_reducible exact Qag)|(with_reducible refine Qbh ?_)|(with_reducible refine Qa1 ?_ _)|(with_reducible refine Qae ?_ ltA _)|(with_reducible refine Qdq ?_ HX4.o))) ltA,(by repeat(first|(with_reducible exact ext_refl _)|(with_reducible refine ext_drew ?_)|(with_reducible refine ext_drewN ?_ _)|(with_reducible refine ext_alloc ?_ _)|(with_reducible refine ext_set ?_ ltA _)|(with_reducible refine Qan ?_ HX5.o)))⟩
   done)):p:=h
theorem Qxs {F:Nat→Prop} {w:World} {cs:List Value} {m:Mk} {k:Int} (h:RMk F w cs m):
  Calls Tryz.prog 192 #[.agg cs.toArray,.int .i64 k] w (Q0s (Qb9 m k).1 (Qb9 m k).2 w):=by
 have HC:=hH (fun(W:World) (hx:Ext w W)=>Qe4 (gMk.ext h hx));have ha:=fun(h0:Qaf m=0) (h1:0≤k) (h2:k≤60) (W:World) (hx:Ext w W)=>Qh7 (k:=k) (gMk.ext h hx) (Qcn h0) (Qew h0) (Qc6 h0) (Qbu h0) ⟨h1,oM⟩
 obtain⟨v,rfl,hl,hi64⟩:=h;obtain⟨l,c⟩:=m;simp only at hl ha ⊢;obtain⟨a1,n1,c1,rfl⟩:=hl.slice;clear hl hi64;by_cases h0:Qaf (l,c)=0
 ·by_cases h1:k<0
  ·have t0:(Qaf (l,c) !=0)=false:=(by rw[h0];rfl);clear ha;have HE:=hH (show(Qb9 (l,c) k).2=3 from Qe6 h0 (.inl h1));have HV:=hH (show(Qb9 (l,c) k).1=([],0) from Qe5 (by rw[Qe6 h0 (.inl h1)];decide));clear h0;have zqa:=trivial;exact Qii
  ·by_cases h2:60<k
   ·have t0:(Qaf (l,c) !=0)=false:=(by rw[h0];rfl);clear ha;have HE:=hH (show(Qb9 (l,c) k).2=3 from Qe6 h0 (.inr h2));have HV:=hH (show(Qb9 (l,c) k).1=([],0) from Qe5 (by rw[Qe6 h0 (.inr h2)];decide));clear h0;have zqa:=trivial;exact Qii
   ·have HA:=hH (ha h0 oM oM);clear ha;obtain⟨d1,d2⟩:=Qbu h0;simp only at d1 d2;have e0:(Qar (l,c) k)=(Qb6 l k,c+k):=rfl;rw[e0] at HA;clear e0;by_cases h3:Qaf (Qb6 l k,c+k)=0
    ·have t0:(Qaf (l,c) !=0)=false:=(by rw[h0];rfl);have t1:(Qaf (Qb6 l k,c+k) !=0)=false:=(by rw[h3];rfl);have H0:=hH h0;have H3:=hH h3;have HE:=hH (show(Qb9 (l,c) k).2=0 from nextM_ok.2 ⟨h0,oM,oM,h3⟩);have HV:=hH (show(Qb9 (l,c) k).1=(Qb6 l k,c+k) from Qt9 (nextM_ok.2 ⟨h0,oM,oM,h3⟩));clear h0 h3;have zqd:=trivial;exact Qii
    ·have t0:(Qaf (l,c) !=0)=false:=(by rw[h0];rfl);have t1:(Qaf (Qb6 l k,c+k) !=0)=true:=(by rw[bne_iff_ne];exact h3);have H0:=hH h0;have H3:=hH h3;have HE:=hH (show(Qb9 (l,c) k).2=3 from Qk5 h0 oM oM h3);have HV:=hH (show(Qb9 (l,c) k).1=([],0) from Qe5 (by rw[Qk5 h0 oM oM h3];decide));clear h0 h3;have zqb:=trivial;exact Qii
 ·have t0:(Qaf (l,c) !=0)=true:=(by rw[bne_iff_ne];exact h0);clear ha;have HE:=hH (show(Qb9 (l,c) k).2=(Qaf (l,c)) from Qk6 h0);have HV:=hH (show(Qb9 (l,c) k).1=([],0) from Qe5 (by rw[Qk6 h0];exact h0));have H0:=hH h0;clear h0;have zqc:=trivial;exact Qii
theorem Qij {p:Prop} (h:p:=by
 go_enter Tryz.func152,Tryz.ntmps152;go_wp2_with (first
  |(go_at_call 147;((with_reducible refine(HC.o _ (by repeat(first|(with_reducible exact ext_refl _)|(with_reducible refine ext_drew ?_)|(with_reducible refine ext_drewN ?_ _)|(with_reducible refine ext_alloc ?_ _)|(with_reducible refine ext_set ?_ ltA _)))).mono ?_);rintro e w1 ⟨rfl,hx1⟩;obtain⟨m0,m1⟩:=cC2 hx1 (w.heap.size) (.slice a1 n1 c1) (.int .i64 c);have r0:=cL hx1 (w.heap.size+1) 0 (.slice none 0 0);have rf0:=fL hx1 (w.heap.size+1) 0;have r1:=cL hx1 (w.heap.size+1) 1 (.int .i64 0);have rf1:=fL hx1 (w.heap.size+1) 1;have HX1:=hH hx1;have hs1:=hx1.size;simp at hs1;clear hx1))
  |(go_at_call 179;go_must ((with_reducible refine(HA.o _ (by repeat(first|(with_reducible exact ext_refl _)|(with_reducible refine ext_drew ?_)|(with_reducible refine ext_drewN ?_ _)|(with_reducible refine ext_alloc ?_ _)|(with_reducible refine ext_set ?_ ltA _)|(with_reducible refine Qan ?_ HX1.o)))).mono ?_);rintro e w2 ⟨cs2,rfl,hm2,hx2⟩;have HM2:=hH (Qem hm2);obtain⟨v2,rfl,hv2,_⟩:=hm2;obtain⟨a3,n3,c3,rfl⟩:=Qab hv2;have hx3:=Qan HX1.o hx2;have q0:=cL hx3 (w.heap.size+1) 0 (.slice none 0 0);have qf0:=fL hx3 (w.heap.size+1) 0;have q1:=cL hx3 (w.heap.size+1) 1 (.int .i64 0);have qf1:=fL hx3 (w.heap.size+1) 1;have HX3:=hH hx3;have hs2:=hx2.size;(try simp at hs2);clear hx2 hx3 hv2 m0 m1 r0 rf0 r1 rf1))
  |(go_at_call 147;go_must ((with_reducible refine(Qcm (gMk.ext HM2.o (ext_alloc (ext_refl _) _))).mono ?_);rintro e w3 ⟨rfl,hx4⟩;obtain⟨b0,b1⟩:=cC2 hx4 w2.heap.size (.slice a3 n3 c3) (.int .i64 (c+k));have hx5:=Qan (Qan HX3.o (ext_alloc (ext_refl _) _)) hx4;clear q0 qf0 q1 qf1;have q0:=cL hx5 (w.heap.size+1) 0 (.slice none 0 0);have qf0:=fL hx5 (w.heap.size+1) 0;have q1:=cL hx5 (w.heap.size+1) 1 (.int .i64 0);have qf1:=fL hx5 (w.heap.size+1) 1;have HX5:=hH hx5;have HX4:=hH hx4;have hs3:=hx4.size;(try simp at hs3);clear hx4 hx5))
  |(go_at_call 66;refine(Qas _ _ _ _).mono ?_;rintro e w9 ⟨rfl,rfl⟩))
 first
 |(
   clear zqa;all_goals refine bodyPost_ret (v:= .tuple #[.agg #[.slice none 0 0,.int .i64 0],.int .i64 3]) (by simp[results,Tryz.results152,go_sem,r0,r1,rf0,rf1,hs1]) rfl ⟨[.slice none 0 0,.int .i64 0],by rw[HE.o],by rw[HV.o];exact⟨_,rfl,RSl.nil_ (Nat.zero_le _),Qal sI sI⟩,(by repeat(first|(with_reducible exact ext_refl _)|(with_reducible refine ext_drew ?_)|(with_reducible refine ext_drewN ?_ _)|(with_reducible refine ext_alloc ?_ _)|(with_reducible refine ext_set ?_ ltA _)|(with_reducible refine Qan ?_ HX1.o)))⟩
   done)
 |(
   clear zqb;all_goals refine bodyPost_ret (v:= .tuple #[.agg #[.slice none 0 0,.int .i64 0],.int .i64 3]) (by simp[results,Tryz.results152,go_sem,q0,q1,qf0,qf1,hs1,hs2,hs3]) rfl ⟨[.slice none 0 0,.int .i64 0],by rw[HE.o],by rw[HV.o];exact⟨_,rfl,RSl.nil_ (Nat.zero_le _),Qal sI sI⟩,(by repeat(first|(with_reducible exact ext_refl _)|(with_reducible refine ext_drew ?_)|(with_reducible refine ext_drewN ?_ _)|(with_reducible refine ext_alloc ?_ _)|(with_reducible refine ext_set ?_ ltA _)|(with_reducible refine Qan ?_ HX5.o)))⟩
   done)
 |(
   clear zqc;all_goals refine bodyPost_ret (v:= .tuple #[.agg #[.slice none 0 0,.int .i64 0],.int .i64 (Qaf (l,c))]) (by simp[results,Tryz.results152,go_sem,r0,r1,rf0,rf1,hs1]) rfl ⟨[.slice none 0 0,.int .i64 0],by rw[HE.o],by rw[HV.o];exact⟨_,rfl,RSl.nil_ (Nat.zero_le _),Qal sI sI⟩,(by repeat(first|(with_reducible exact ext_refl _)|(with_reducible refine ext_drew ?_)|(with_reducible refine ext_drewN ?_ _)|(with_reducible refine ext_alloc ?_ _)|(with_reducible refine ext_set ?_ ltA _)|(with_reducible refine Qan ?_ HX1.o)))⟩
   done)
 |(
   clear zqd;all_goals refine bodyPost_ret (v:= .tuple #[.agg #[.slice a3 n3 c3,.int .i64 (c+k)],.int .i64 0]) (by simp[results,Tryz.results152,go_sem,q0,q1,b0,b1,qf0,qf1,hs1,hs2,hs3]) rfl ⟨[.slice a3 n3 c3,.int .i64 (c+k)],by rw[HE.o],by rw[HV.o];exact Q0v HM2.o (by repeat(first|(with_reducible exact Qag)|(with_reducible refine Qbh ?_)|(with_reducible refine Qa1 ?_ _)|(with_reducible refine Qae ?_ ltA _)|(with_reducible refine Qdq ?_ HX4.o))) ltA,(by repeat(first|(with_reducible exact ext_refl _)|(with_reducible refine ext_drew ?_)|(with_reducible refine ext_drewN ?_ _)|(with_reducible refine ext_alloc ?_ _)|(with_reducible refine ext_set ?_ ltA _)|(with_reducible refine Qan ?_ HX5.o)))⟩
   done)):p:=h
theorem Qqx {F:Nat→Prop} {w:World} {cs:List Value} {m:Mk} {k:Int} (h:RMk F w cs m):
  Calls Tryz.prog 152 #[.agg cs.toArray,.int .i64 k] w (Q0s (Qb9 m k).1 (Qb9 m k).2 w):=by
 have HC:=hH (fun(W:World) (hx:Ext w W)=>Qcm (gMk.ext h hx));have ha:=fun(h0:Qaf m=0) (h1:0≤k) (h2:k≤60) (W:World) (hx:Ext w W)=>Qfp (k:=k) (gMk.ext h hx) (Qcn h0) (Qew h0) (Qc6 h0) (Qbu h0) ⟨h1,oM⟩
 obtain⟨v,rfl,hl,hi64⟩:=h;obtain⟨l,c⟩:=m;simp only at hl ha ⊢;obtain⟨a1,n1,c1,rfl⟩:=hl.slice;clear hl hi64;by_cases h0:Qaf (l,c)=0
 ·by_cases h1:k<0
  ·have t0:(Qaf (l,c) !=0)=false:=(by rw[h0];rfl);have g1:inB k 0 60=false:=(by unfold inB;simp;omega);clear ha;have HE:=hH (show(Qb9 (l,c) k).2=3 from Qe6 h0 (.inl h1));have HV:=hH (show(Qb9 (l,c) k).1=([],0) from Qe5 (by rw[Qe6 h0 (.inl h1)];decide));clear h0;have zqa:=trivial;exact Qij
  ·by_cases h2:60<k
   ·have t0:(Qaf (l,c) !=0)=false:=(by rw[h0];rfl);have g1:inB k 0 60=false:=(by unfold inB;simp;omega);clear ha;have HE:=hH (show(Qb9 (l,c) k).2=3 from Qe6 h0 (.inr h2));have HV:=hH (show(Qb9 (l,c) k).1=([],0) from Qe5 (by rw[Qe6 h0 (.inr h2)];decide));clear h0;have zqa:=trivial;exact Qij
   ·have HA:=hH (ha h0 oM oM);clear ha;obtain⟨d1,d2⟩:=Qbu h0;simp only at d1 d2;have e0:(Qar (l,c) k)=(Qb6 l k,c+k):=rfl;rw[e0] at HA;clear e0;have g1:inB k 0 60=true:=(by unfold inB;simp;omega);by_cases h3:Qaf (Qb6 l k,c+k)=0
    ·have t0:(Qaf (l,c) !=0)=false:=(by rw[h0];rfl);have t1:(Qaf (Qb6 l k,c+k) !=0)=false:=(by rw[h3];rfl);have H0:=hH h0;have H3:=hH h3;have HE:=hH (show(Qb9 (l,c) k).2=0 from nextM_ok.2 ⟨h0,oM,oM,h3⟩);have HV:=hH (show(Qb9 (l,c) k).1=(Qb6 l k,c+k) from Qt9 (nextM_ok.2 ⟨h0,oM,oM,h3⟩));clear h0 h3;have zqd:=trivial;exact Qij
    ·have t0:(Qaf (l,c) !=0)=false:=(by rw[h0];rfl);have t1:(Qaf (Qb6 l k,c+k) !=0)=true:=(by rw[bne_iff_ne];exact h3);have H0:=hH h0;have H3:=hH h3;have HE:=hH (show(Qb9 (l,c) k).2=3 from Qk5 h0 oM oM h3);have HV:=hH (show(Qb9 (l,c) k).1=([],0) from Qe5 (by rw[Qk5 h0 oM oM h3];decide));clear h0 h3;have zqb:=trivial;exact Qij
 ·have t0:(Qaf (l,c) !=0)=true:=(by rw[bne_iff_ne];exact h0);clear ha;have HE:=hH (show(Qb9 (l,c) k).2=(Qaf (l,c)) from Qk6 h0);have HV:=hH (show(Qb9 (l,c) k).1=([],0) from Qe5 (by rw[Qk6 h0];exact h0));have H0:=hH h0;clear h0;have zqc:=trivial;exact Qij
end Go.Proofs.YtgnccjojfebkeaaGreat
namespace Go.Proofs.YtgnccjojfebkeaaGreat
open Go Go.RowKit Go.BigFrame Cp
theorem Qby {v:Value} {t:Tx} (h:RTx v t):∃s:ByteArray,v= .string s∧t=s.data.toList∧s.size≤140737488351232:=by
 obtain⟨rfl,h⟩:=h;exact⟨⟨t.toArray⟩,rfl,sI,by simpa [ByteArray.size] using h⟩
theorem Q4k {n:Nat} (h:n≤140737488351232):n≤maxLen:=mO
theorem Qe3 {s:ByteArray} (h:s.size=0):s.data.toList=[]:=by
 exact List.length_eq_zero_iff.1 (by simpa using h)
theorem Qdg {s:ByteArray} (h:¬s.size=0):s.data.toList≠[]:=by
 intro e;apply h
 have:s.data.toList.length=0:=by rw[e];rfl
 simpa using this
theorem Qgw {s:ByteArray} (h:s.size=0):s.toList.isEmpty=true:=by rw[ByteArray.toList_eq,Qe3 h];rfl
theorem Qi3 {s:ByteArray} (h:¬s.size=0):s.toList.isEmpty=false:=by
 rw[ByteArray.toList_eq];cases hl:s.data.toList with
 |nil=>exact absurd hl (Qdg h)
 |cons _ _=>rfl
section
variable {m:Mk} {s:ByteArray}
theorem Qod (h:¬Qaf m=0):Qbd (m,s.data.toList)=Qaf m:=by unfold Qbd;rw[if_pos h]
theorem Qqc (h:Qaf m=0) (h2:s.size=0):Qbd (m,s.data.toList)=1:=by unfold Qbd;rw[if_neg (by simpa using h),if_pos (Qe3 h2)]
theorem Qoc (h:Qaf m=0) (h2:¬s.size=0) (h3:60<s.size):Qbd (m,s.data.toList)=2:=by unfold Qbd;rw[if_neg (by simpa using h),if_neg (Qdg h2),if_pos (by simpa using h3)]
theorem Qof (h:Qaf m=0) (h2:¬s.size=0) (h3:¬60<s.size) (h4:Qbj s.data.toList=false):Qbd (m,s.data.toList)=3:=by
 unfold Qbd;rw[if_neg (by simpa using h),if_neg (Qdg h2),if_neg (by simpa using h3),if_pos h4]
theorem Qoe (h:Qaf m=0) (h2:¬s.size=0) (h3:¬60<s.size) (h4:Qbj s.data.toList=true):Qbd (m,s.data.toList)=(Qb9 m ((s.size:Int)-1)).2:=by
 unfold Qbd;rw[if_neg (by simpa using h),if_neg (Qdg h2),if_neg (by simpa using h3),if_neg (by rw[h4];simp)];have:s.data.toList.length=s.size:=sI;simp only[this]
end
theorem Qh0 {F:Nat→Prop} {w:World} {v:Value} {l:List Stp} {c:Int} {s:Value} {t:Tx} (h:RSl Qdt 2 F w v l) (i:I64 c) (k:RTx s t):RRn F w [v,.int .i64 c,s] ((l,c),t):=⟨v,s,rfl,h,i,k⟩
theorem Qk0 {p:Prop} (h:p:=by
 go_enter Tryz.func189,Tryz.ntmps189;go_wp2_with (first
  |(go_at_call 191;go_must ((with_reducible refine(HC.o _ Qac).mono ?_);rintro e w1 ⟨rfl,hx1⟩;have hz1:=hx1.size;(try simp at hz1);have hb1_0:=zL hx1 w.heap.size;obtain⟨p0,p1,p2⟩:=cC3 hx1 (w.heap.size) (.slice a1 n1 c1) (.int .i64 c) (.string s)))
  |(go_at_call 168;go_must ((with_reducible refine(HG.o _).mono ?_);rintro e w' ⟨rfl,rfl⟩))
  |(go_at_call 192;go_must ((with_reducible refine(HN.o _ Qac).mono ?_);rintro e w3 ⟨cs3,rfl,hm3,hx3⟩)))
 go_ret;exact⟨rfl,Qac⟩):p:=h
theorem Qrt {F:Nat→Prop} {w:World} {cs:List Value} {r:Rn} (h:RRn F w cs r):
  Calls Tryz.prog 189 #[.agg cs.toArray] w fun e w'=>e= .returned (.int .i64 (Qbd r))∧Ext w w':=by
 obtain⟨v,u,rfl,hl,hi,hu⟩:=h;obtain⟨⟨l,c⟩,t⟩:=r;simp only at hl hi hu ⊢;obtain⟨s,rfl,rfl,hs⟩:=Qby hu;have HC:=hH (fun(W:World) (hx:Ext w W)=>Qe4 (Qam (hl.ext Qap hx) hi));have HN:=hH (fun(W:World) (hx:Ext w W)=>Qxs (k:=(s.size:Int)-1) (Qam (hl.ext Qap hx) hi));have HG:=hH (fun(W:World)=>Qfa s W (Q4k hs));obtain⟨a1,n1,c1,rfl⟩:=hl.slice;clear hl hi hu;by_cases h0:Qaf (l,c)=0
 ·have H0:=hH h0;rw[h0] at HC;clear h0;by_cases h1:s.size=0
  ·rw[Qqc H0.out h1];have t1:s.toList.isEmpty=true:=Qgw h1;clear h1;exact Qk0
  have t1:s.toList.isEmpty=false:=Qi3 h1;have hp:0<s.size:=oM;by_cases h3:60<s.size
  ·rw[Qoc H0.out h1 h3];clear h1;exact Qk0
  cases h4:Qbj s.data.toList with
  |false=>
   rw[Qof H0.out h1 h3 h4];rw[h4] at HG;clear h1;exact Qk0
  |true=>
   rw[Qoe H0.out h1 h3 h4];rw[h4] at HG;clear h1;generalize Qb9 (l,c) ((s.size:Int)-1)=nx at *;obtain⟨nm,er⟩:=nx;simp only at HN ⊢;exact Qk0
 ·rw[Qod h0];have t1:(Qaf (l,c) !=0)=true:=by simpa using h0
  generalize Qaf (l,c)=r at *;clear h0;exact Qk0
theorem Qk1 {p:Prop} (h:p:=by
 go_enter Tryz.func150,Tryz.ntmps150;go_wp2_with (first
  |(go_at_call 147;go_must ((with_reducible refine(HC.o _ Qac).mono ?_);rintro e w1 ⟨rfl,hx1⟩;have hz1:=hx1.size;(try simp at hz1);have hb1_0:=zL hx1 w.heap.size;obtain⟨p0,p1,p2⟩:=cC3 hx1 (w.heap.size) (.slice a1 n1 c1) (.int .i64 c) (.string s)))
  |(go_at_call 116;go_must ((with_reducible refine(HG.o _).mono ?_);rintro e w' ⟨rfl,rfl⟩))
  |(go_at_call 152;go_must ((with_reducible refine(HN.o _ Qac).mono ?_);rintro e w3 ⟨cs3,rfl,hm3,hx3⟩)))
 go_ret;exact⟨rfl,Qac⟩):p:=h
theorem Qtd {F:Nat→Prop} {w:World} {cs:List Value} {r:Rn} (h:RRn F w cs r):
  Calls Tryz.prog 150 #[.agg cs.toArray] w fun e w'=>e= .returned (.int .i64 (Qbd r))∧Ext w w':=by
 obtain⟨v,u,rfl,hl,hi,hu⟩:=h;obtain⟨⟨l,c⟩,t⟩:=r;simp only at hl hi hu ⊢;obtain⟨s,rfl,rfl,hs⟩:=Qby hu;have HC:=hH (fun(W:World) (hx:Ext w W)=>Qcm (Qam (hl.ext Qap hx) hi));have HN:=hH (fun(W:World) (hx:Ext w W)=>Qqx (k:=(s.size:Int)-1) (Qam (hl.ext Qap hx) hi));have HG:=hH (fun(W:World)=>Qml s W (Q4k hs));obtain⟨a1,n1,c1,rfl⟩:=hl.slice;clear hl hi hu;by_cases h0:Qaf (l,c)=0
 ·have H0:=hH h0;rw[h0] at HC;clear h0;by_cases h1:s.size=0
  ·rw[Qqc H0.out h1];have t1:s.toList.isEmpty=true:=Qgw h1;clear h1;exact Qk1
  have t1:s.toList.isEmpty=false:=Qi3 h1;have hp:0<s.size:=oM;by_cases h3:60<s.size
  ·rw[Qoc H0.out h1 h3];clear h1;exact Qk1
  cases h4:Qbj s.data.toList with
  |false=>
   rw[Qof H0.out h1 h3 h4];rw[h4] at HG;clear h1;exact Qk1
  |true=>
   rw[Qoe H0.out h1 h3 h4];rw[h4] at HG;clear h1;generalize Qb9 (l,c) ((s.size:Int)-1)=nx at *;obtain⟨nm,er⟩:=nx;simp only at HN ⊢;exact Qk1
 ·rw[Qod h0];have t1:(Qaf (l,c) !=0)=true:=by simpa using h0
  generalize Qaf (l,c)=r at *;clear h0;exact Qk1
def Qat (d:De):Int:=
 if d.kind=1 then(if Qbd d.run≠0 then Qbd d.run else if Qbf d.mark=false∨d.many≠0 then 1 else 0)
 else if d.kind=2 then
  (if Qaf d.mark≠0 then Qaf d.mark else if Qbf d.run.1=false∨d.run.2≠[] then 1 else if d.many<1∨60<d.many then 3 else(Qb9 d.mark (d.many-1)).2)
 else 7
section
variable {d:De}
theorem Qgn (h:d.kind=1) (h1:¬Qbd d.run=0):Qat d=Qbd d.run:=by unfold Qat;rw[if_pos h,if_pos h1]
theorem Qdo (h:d.kind=1) (h1:Qbd d.run=0) (h2:Qbf d.mark=false∨d.many≠0):Qat d=1:=by unfold Qat;rw[if_pos h,if_neg (by simpa using h1),if_pos h2]
theorem Qho (h:d.kind=1) (h1:Qbd d.run=0) (h2:Qbf d.mark=true) (h3:d.many=0):Qat d=0:=by unfold Qat;rw[if_pos h,if_neg (by simpa using h1),if_neg (by rw[h2,h3];simp)]
theorem Qft (h0:¬d.kind=1) (h:d.kind=2) (h1:¬Qaf d.mark=0):Qat d=Qaf d.mark:=by unfold Qat;rw[if_neg h0,if_pos h,if_pos h1]
theorem Qda (h0:¬d.kind=1) (h:d.kind=2) (h1:Qaf d.mark=0) (h2:Qbf d.run.1=false∨d.run.2≠[]):Qat d=1:=by unfold Qat;rw[if_neg h0,if_pos h,if_neg (by simpa using h1),if_pos h2]
theorem Qeo (h0:¬d.kind=1) (h:d.kind=2) (h1:Qaf d.mark=0) (h2:Qbf d.run.1=true) (h3:d.run.2=[]) (h4:d.many<1∨60<d.many):Qat d=3:=by
 unfold Qat;rw[if_neg h0,if_pos h,if_neg (by simpa using h1),if_neg (by rw[h2,h3];simp),if_pos h4]
theorem Qd9 (h0:¬d.kind=1) (h:d.kind=2) (h1:Qaf d.mark=0) (h2:Qbf d.run.1=true) (h3:d.run.2=[]) (h4:¬(d.many<1∨60<d.many)):Qat d=(Qb9 d.mark (d.many-1)).2:=by
 unfold Qat;rw[if_neg h0,if_pos h,if_neg (by simpa using h1),if_neg (by rw[h2,h3];simp),if_neg h4]
theorem Qjz (h0:¬d.kind=1) (h:¬d.kind=2):Qat d=7:=by unfold Qat;rw[if_neg h0,if_neg h]
end
theorem Vb9 {F:Nat→Prop} {w:World} {v u s:Value} {k c c2 m:Int} {p p2:List Stp} {t:Tx} (hk:I64 k) (hp:RSl Qdt 2 F w v p) (hc:I64 c) (ht:RTx s t) (hq:RSl Qdt 2 F w u p2) (hc2:I64 c2) (hm:I64 m):
  RDe F w [.int .i64 k,v,.int .i64 c,s,u,.int .i64 c2,.int .i64 m] ⟨k,((p,c),t),(p2,c2),m⟩:=⟨v,s,u,rfl,hk,hp,hc,ht,hq,hc2,hm⟩
theorem Qnj {p:Prop} (h:p:=by
 go_enter Tryz.func143,Tryz.ntmps143;go_wp2_with (first
  |(go_at_call 189;(with_reducible refine(HR.o _ Qac).mono ?_);rintro e' w1 ⟨rfl,hx1⟩;have hz1:=hx1.size;(try simp at hz1);have hb1_0:=zL hx1 w.heap.size;obtain⟨p0,p1,p2,p3,p4,p5,p6⟩:=cC7 hx1 (w.heap.size) (.int .i64 1) (.slice a1 n1 c1) (.int .i64 c) (.string s) (.slice a2 n2 c2) (.int .i64 e) (.int .i64 mn))
  |(go_at_call 191;(with_reducible refine(HK.o _ Qac).mono ?_);rintro e' w2 ⟨rfl,hx2⟩;have hz2:=hx2.size;(try simp at hz2);have hb2_0:=zL hx2 w.heap.size;obtain⟨q0,q1,q2,q3,q4,q5,q6⟩:=cC7 hx2 (w.heap.size) (.int .i64 1) (.slice a1 n1 c1) (.int .i64 c) (.string s) (.slice a2 n2 c2) (.int .i64 e) (.int .i64 mn))
  |(go_at_call 190;(with_reducible refine(HN2.o _ Qac).mono ?_);rintro e' w4 ⟨rfl,hx4⟩;have hz4:=hx4.size;(try simp at hz4);have hb4_0:=zL hx4 w.heap.size;obtain⟨s0,s1,s2,s3,s4,s5,s6⟩:=cC7 hx4 (w.heap.size) (.int .i64 1) (.slice a1 n1 c1) (.int .i64 c) (.string s) (.slice a2 n2 c2) (.int .i64 e) (.int .i64 mn))
  |(go_at_call 190;(with_reducible refine(HN1.o _ Qac).mono ?_);rintro e' w3 ⟨rfl,hx3⟩;have hz3:=hx3.size;(try simp at hz3);have hb3_0:=zL hx3 w.heap.size;obtain⟨r0,r1,r2,r3,r4,r5,r6⟩:=cC7 hx3 (w.heap.size) (.int .i64 1) (.slice a1 n1 c1) (.int .i64 c) (.string s) (.slice a2 n2 c2) (.int .i64 e) (.int .i64 mn))
  |(go_at_call 192;(with_reducible refine(HX.o _ Qac).mono ?_);rintro e' w5 ⟨cs5,rfl,hm5,hx5⟩;obtain⟨v5,rfl,hv5,_⟩:=hm5;obtain⟨a5,n5,c5,rfl⟩:=hv5.slice;clear hv5))
 go_ret;exact⟨rfl,Qac⟩):p:=h
theorem Qi6 {p:Prop} (h:p:=by
 go_enter Tryz.func143,Tryz.ntmps143;go_wp2_with (first
  |(go_at_call 189;(with_reducible refine(HR.o _ Qac).mono ?_);rintro e' w1 ⟨rfl,hx1⟩;have hz1:=hx1.size;(try simp at hz1);have hb1_0:=zL hx1 w.heap.size;obtain⟨p0,p1,p2,p3,p4,p5,p6⟩:=cC7 hx1 (w.heap.size) (.int .i64 2) (.slice a1 n1 c1) (.int .i64 c) (.string s) (.slice a2 n2 c2) (.int .i64 e) (.int .i64 mn))
  |(go_at_call 191;(with_reducible refine(HK.o _ Qac).mono ?_);rintro e' w2 ⟨rfl,hx2⟩;have hz2:=hx2.size;(try simp at hz2);have hb2_0:=zL hx2 w.heap.size;obtain⟨q0,q1,q2,q3,q4,q5,q6⟩:=cC7 hx2 (w.heap.size) (.int .i64 2) (.slice a1 n1 c1) (.int .i64 c) (.string s) (.slice a2 n2 c2) (.int .i64 e) (.int .i64 mn))
  |(go_at_call 190;(with_reducible refine(HN2.o _ Qac).mono ?_);rintro e' w4 ⟨rfl,hx4⟩;have hz4:=hx4.size;(try simp at hz4);have hb4_0:=zL hx4 w.heap.size;obtain⟨s0,s1,s2,s3,s4,s5,s6⟩:=cC7 hx4 (w.heap.size) (.int .i64 2) (.slice a1 n1 c1) (.int .i64 c) (.string s) (.slice a2 n2 c2) (.int .i64 e) (.int .i64 mn))
  |(go_at_call 190;(with_reducible refine(HN1.o _ Qac).mono ?_);rintro e' w3 ⟨rfl,hx3⟩;have hz3:=hx3.size;(try simp at hz3);have hb3_0:=zL hx3 w.heap.size;obtain⟨r0,r1,r2,r3,r4,r5,r6⟩:=cC7 hx3 (w.heap.size) (.int .i64 2) (.slice a1 n1 c1) (.int .i64 c) (.string s) (.slice a2 n2 c2) (.int .i64 e) (.int .i64 mn))
  |(go_at_call 192;(with_reducible refine(HX.o _ Qac).mono ?_);rintro e' w5 ⟨cs5,rfl,hm5,hx5⟩;obtain⟨v5,rfl,hv5,_⟩:=hm5;obtain⟨a5,n5,c5,rfl⟩:=hv5.slice;clear hv5))
 go_ret;exact⟨rfl,Qac⟩):p:=h
theorem Qjk {F:Nat→Prop} {w:World} {cs:List Value} {d:De} (h:RDe F w cs d):
  Calls Tryz.prog 143 #[.agg cs.toArray] w fun e w'=>e= .returned (.int .i64 (Qat d))∧Ext w w':=by
 obtain⟨v,u,x,rfl,hk,hl,hi,hu,hm,hj,hn⟩:=h;obtain⟨kd,⟨⟨l,c⟩,t⟩,⟨m,e⟩,mn⟩:=d;simp only at hk hl hi hu hm hj hn ⊢;obtain⟨s,rfl,rfl,hs⟩:=Qby hu;have HR:=hH (fun(W:World) (hx:Ext w W)=>Qrt (Qh0 (hl.ext Qap hx) hi hu));have HK:=hH (fun(W:World) (hx:Ext w W)=>Qe4 (Qam (hm.ext Qap hx) hj));have HN1:=hH (fun(W:World) (hx:Ext w W)=>Qk7 (Qam (hl.ext Qap hx) hi));have HN2:=hH (fun(W:World) (hx:Ext w W)=>Qk7 (Qam (hm.ext Qap hx) hj));have HX:=hH (fun(W:World) (hx:Ext w W)=>Qxs (k:=mn-1) (Qam (hm.ext Qap hx) hj));obtain⟨a1,n1,c1,rfl⟩:=hl.slice;obtain⟨a2,n2,c2,rfl⟩:=hm.slice;obtain⟨hn1,hn2⟩:=hn;clear hl hi hu hm hj hk;by_cases k1:kd=1
 ·subst k1;by_cases h0:Qbd ((l,c),s.data.toList)=0
  ·have H0:=hH h0;rw[h0] at HR;clear h0;cases g:Qbf (m,e) with
   |false=>
    rw[Qdo rfl H0.out (.inl g)];rw[g] at HN2;clear HN1 HK;exact Qnj
   |true=>
    rw[g] at HN2;clear HN1 HK;by_cases h1:mn=0
    ·rw[Qho rfl H0.out g h1];have t1:(mn !=0)=false:=by simpa using h1
     clear h1;exact Qnj
    ·rw[Qdo rfl H0.out (.inr h1)];have t1:(mn !=0)=true:=by simpa using h1
     clear h1;exact Qnj
  ·rw[Qgn rfl h0];simp only;have t1:(Qbd ((l,c),s.data.toList) !=0)=true:=by simpa using h0
   have t2:(Qbd ((l,c),s.data.toList)==0)=false:=by simpa using h0
   generalize Qbd ((l,c),s.data.toList)=r at *;clear h0;exact Qnj
 ·have t0:(kd==1)=false:=by simpa using k1
  by_cases k2:kd=2
  ·subst k2;by_cases h0:Qaf (m,e)=0
   ·have H0:=hH h0;rw[h0] at HK;clear h0;cases g:Qbf (l,c) with
    |false=>
     rw[Qda k1 rfl H0.out (.inl g)];rw[g] at HN1;clear k1 HN2;exact Qi6
    |true=>
     rw[g] at HN1;clear HN2;by_cases h1:s.size=0
     ·have t1:s.toList.isEmpty=true:=Qgw h1;by_cases h2:mn<1∨60<mn
      ·rw[Qeo k1 rfl H0.out g (Qe3 h1) h2];have t3:inB mn 1 60=false:=by unfold inB;simp;omega
       rcases h2 with h2|h2
       ·have t2:decide (mn<1)=true:=decide_eq_true h2;clear k1 h1;exact Qi6
       ·have t2:decide (mn<1)=false:=decide_eq_false oM;have t4:decide (60<mn)=true:=decide_eq_true h2;clear k1 h1;exact Qi6
      ·rw[Qd9 k1 rfl H0.out g (Qe3 h1) h2];have t3:inB mn 1 60=true:=by unfold inB;simp;omega
       have t2:decide (mn<1)=false:=decide_eq_false oM;have t4:decide (60<mn)=false:=decide_eq_false oM;have b1:1≤mn:=oM;have b2:mn≤60:=oM;clear k1 h1 h2;simp only;generalize Qb9 (m,e) (mn-1)=nx at *;obtain⟨⟨np,nc⟩,er⟩:=nx;simp only at HX ⊢;exact Qi6
     ·rw[Qda k1 rfl H0.out (.inr (Qdg h1))];have t1:s.toList.isEmpty=false:=Qi3 h1;clear k1 h1;exact Qi6
   ·rw[Qft k1 rfl h0];simp only;have t1:(Qaf (m,e) !=0)=true:=by simpa using h0
    generalize Qaf (m,e)=r at *;clear h0 k1;exact Qi6
  ·rw[Qjz k1 k2];have t1:(kd==2)=false:=by simpa using k2
   have t2:(kd !=2)=true:=by simpa using k2
   clear k1 k2;go_enter Tryz.func143,Tryz.ntmps143;go_wp2_with (first
    |(go_at_call 189;(with_reducible refine(HR.o _ Qac).mono ?_);rintro e' w1 ⟨rfl,hx1⟩;have hz1:=hx1.size;(try simp at hz1);have hb1_0:=zL hx1 w.heap.size;obtain⟨p0,p1,p2,p3,p4,p5,p6⟩:=cC7 hx1 (w.heap.size) (.int .i64 kd) (.slice a1 n1 c1) (.int .i64 c) (.string s) (.slice a2 n2 c2) (.int .i64 e) (.int .i64 mn))
    |(go_at_call 191;(with_reducible refine(HK.o _ Qac).mono ?_);rintro e' w2 ⟨rfl,hx2⟩;have hz2:=hx2.size;(try simp at hz2);have hb2_0:=zL hx2 w.heap.size;obtain⟨q0,q1,q2,q3,q4,q5,q6⟩:=cC7 hx2 (w.heap.size) (.int .i64 kd) (.slice a1 n1 c1) (.int .i64 c) (.string s) (.slice a2 n2 c2) (.int .i64 e) (.int .i64 mn))
    |(go_at_call 190;(with_reducible refine(HN2.o _ Qac).mono ?_);rintro e' w4 ⟨rfl,hx4⟩;have hz4:=hx4.size;(try simp at hz4);have hb4_0:=zL hx4 w.heap.size;obtain⟨s0,s1,s2,s3,s4,s5,s6⟩:=cC7 hx4 (w.heap.size) (.int .i64 kd) (.slice a1 n1 c1) (.int .i64 c) (.string s) (.slice a2 n2 c2) (.int .i64 e) (.int .i64 mn))
    |(go_at_call 190;(with_reducible refine(HN1.o _ Qac).mono ?_);rintro e' w3 ⟨rfl,hx3⟩;have hz3:=hx3.size;(try simp at hz3);have hb3_0:=zL hx3 w.heap.size;obtain⟨r0,r1,r2,r3,r4,r5,r6⟩:=cC7 hx3 (w.heap.size) (.int .i64 kd) (.slice a1 n1 c1) (.int .i64 c) (.string s) (.slice a2 n2 c2) (.int .i64 e) (.int .i64 mn))
    |(go_at_call 192;(with_reducible refine(HX.o _ Qac).mono ?_);rintro e' w5 ⟨cs5,rfl,hm5,hx5⟩;obtain⟨v5,rfl,hv5,_⟩:=hm5;obtain⟨a5,n5,c5,rfl⟩:=hv5.slice;clear hv5))
   go_ret;exact⟨rfl,Qac⟩
theorem Qnk {p:Prop} (h:p:=by
 go_enter Tryz.func85,Tryz.ntmps85;go_wp2_with (first
  |(go_at_call 150;(with_reducible refine(HR.o _ Qac).mono ?_);rintro e' w1 ⟨rfl,hx1⟩;have hz1:=hx1.size;(try simp at hz1);have hb1_0:=zL hx1 w.heap.size;obtain⟨p0,p1,p2,p3,p4,p5,p6⟩:=cC7 hx1 (w.heap.size) (.int .i64 1) (.slice a1 n1 c1) (.int .i64 c) (.string s) (.slice a2 n2 c2) (.int .i64 e) (.int .i64 mn))
  |(go_at_call 147;(with_reducible refine(HK.o _ Qac).mono ?_);rintro e' w2 ⟨rfl,hx2⟩;have hz2:=hx2.size;(try simp at hz2);have hb2_0:=zL hx2 w.heap.size;obtain⟨q0,q1,q2,q3,q4,q5,q6⟩:=cC7 hx2 (w.heap.size) (.int .i64 1) (.slice a1 n1 c1) (.int .i64 c) (.string s) (.slice a2 n2 c2) (.int .i64 e) (.int .i64 mn))
  |(go_at_call 151;(with_reducible refine(HN2.o _ Qac).mono ?_);rintro e' w4 ⟨rfl,hx4⟩;have hz4:=hx4.size;(try simp at hz4);have hb4_0:=zL hx4 w.heap.size;obtain⟨s0,s1,s2,s3,s4,s5,s6⟩:=cC7 hx4 (w.heap.size) (.int .i64 1) (.slice a1 n1 c1) (.int .i64 c) (.string s) (.slice a2 n2 c2) (.int .i64 e) (.int .i64 mn))
  |(go_at_call 151;(with_reducible refine(HN1.o _ Qac).mono ?_);rintro e' w3 ⟨rfl,hx3⟩;have hz3:=hx3.size;(try simp at hz3);have hb3_0:=zL hx3 w.heap.size;obtain⟨r0,r1,r2,r3,r4,r5,r6⟩:=cC7 hx3 (w.heap.size) (.int .i64 1) (.slice a1 n1 c1) (.int .i64 c) (.string s) (.slice a2 n2 c2) (.int .i64 e) (.int .i64 mn))
  |(go_at_call 152;(with_reducible refine(HX.o _ Qac).mono ?_);rintro e' w5 ⟨cs5,rfl,hm5,hx5⟩;obtain⟨v5,rfl,hv5,_⟩:=hm5;obtain⟨a5,n5,c5,rfl⟩:=hv5.slice;clear hv5)
  |(go_at_call 66;(with_reducible refine(Qas _ _ _ _).mono ?_);rintro e' w' ⟨rfl,rfl⟩))
 go_ret;exact⟨rfl,Qac⟩):p:=h
theorem Qi7 {p:Prop} (h:p:=by
 go_enter Tryz.func85,Tryz.ntmps85;go_wp2_with (first
  |(go_at_call 150;(with_reducible refine(HR.o _ Qac).mono ?_);rintro e' w1 ⟨rfl,hx1⟩;have hz1:=hx1.size;(try simp at hz1);have hb1_0:=zL hx1 w.heap.size;obtain⟨p0,p1,p2,p3,p4,p5,p6⟩:=cC7 hx1 (w.heap.size) (.int .i64 2) (.slice a1 n1 c1) (.int .i64 c) (.string s) (.slice a2 n2 c2) (.int .i64 e) (.int .i64 mn))
  |(go_at_call 147;(with_reducible refine(HK.o _ Qac).mono ?_);rintro e' w2 ⟨rfl,hx2⟩;have hz2:=hx2.size;(try simp at hz2);have hb2_0:=zL hx2 w.heap.size;obtain⟨q0,q1,q2,q3,q4,q5,q6⟩:=cC7 hx2 (w.heap.size) (.int .i64 2) (.slice a1 n1 c1) (.int .i64 c) (.string s) (.slice a2 n2 c2) (.int .i64 e) (.int .i64 mn))
  |(go_at_call 151;(with_reducible refine(HN2.o _ Qac).mono ?_);rintro e' w4 ⟨rfl,hx4⟩;have hz4:=hx4.size;(try simp at hz4);have hb4_0:=zL hx4 w.heap.size;obtain⟨s0,s1,s2,s3,s4,s5,s6⟩:=cC7 hx4 (w.heap.size) (.int .i64 2) (.slice a1 n1 c1) (.int .i64 c) (.string s) (.slice a2 n2 c2) (.int .i64 e) (.int .i64 mn))
  |(go_at_call 151;(with_reducible refine(HN1.o _ Qac).mono ?_);rintro e' w3 ⟨rfl,hx3⟩;have hz3:=hx3.size;(try simp at hz3);have hb3_0:=zL hx3 w.heap.size;obtain⟨r0,r1,r2,r3,r4,r5,r6⟩:=cC7 hx3 (w.heap.size) (.int .i64 2) (.slice a1 n1 c1) (.int .i64 c) (.string s) (.slice a2 n2 c2) (.int .i64 e) (.int .i64 mn))
  |(go_at_call 152;(with_reducible refine(HX.o _ Qac).mono ?_);rintro e' w5 ⟨cs5,rfl,hm5,hx5⟩;obtain⟨v5,rfl,hv5,_⟩:=hm5;obtain⟨a5,n5,c5,rfl⟩:=hv5.slice;clear hv5)
  |(go_at_call 66;(with_reducible refine(Qas _ _ _ _).mono ?_);rintro e' w' ⟨rfl,rfl⟩))
 go_ret;exact⟨rfl,Qac⟩):p:=h
theorem Qkd {F:Nat→Prop} {w:World} {cs:List Value} {d:De} (h:RDe F w cs d):
  Calls Tryz.prog 85 #[.agg cs.toArray] w fun e w'=>e= .returned (.int .i64 (Qat d))∧Ext w w':=by
 obtain⟨v,u,x,rfl,hk,hl,hi,hu,hm,hj,hn⟩:=h;obtain⟨kd,⟨⟨l,c⟩,t⟩,⟨m,e⟩,mn⟩:=d;simp only at hk hl hi hu hm hj hn ⊢;obtain⟨s,rfl,rfl,hs⟩:=Qby hu;have HR:=hH (fun(W:World) (hx:Ext w W)=>Qtd (Qh0 (hl.ext Qap hx) hi hu));have HK:=hH (fun(W:World) (hx:Ext w W)=>Qcm (Qam (hm.ext Qap hx) hj));have HN1:=hH (fun(W:World) (hx:Ext w W)=>Qnn (Qam (hl.ext Qap hx) hi));have HN2:=hH (fun(W:World) (hx:Ext w W)=>Qnn (Qam (hm.ext Qap hx) hj));have HX:=hH (fun(W:World) (hx:Ext w W)=>Qqx (k:=mn-1) (Qam (hm.ext Qap hx) hj));obtain⟨a1,n1,c1,rfl⟩:=hl.slice;obtain⟨a2,n2,c2,rfl⟩:=hm.slice;obtain⟨hn1,hn2⟩:=hn;clear hl hi hu hm hj hk;by_cases k1:kd=1
 ·subst k1;by_cases h0:Qbd ((l,c),s.data.toList)=0
  ·have H0:=hH h0;rw[h0] at HR;clear h0;cases g:Qbf (m,e) with
   |false=>
    rw[Qdo rfl H0.out (.inl g)];rw[g] at HN2;clear HN1 HK;exact Qnk
   |true=>
    rw[g] at HN2;clear HN1 HK;by_cases h1:mn=0
    ·rw[Qho rfl H0.out g h1];have t1:(mn !=0)=false:=by simpa using h1
     clear h1;exact Qnk
    ·rw[Qdo rfl H0.out (.inr h1)];have t1:(mn !=0)=true:=by simpa using h1
     clear h1;exact Qnk
  ·rw[Qgn rfl h0];simp only;have t1:(Qbd ((l,c),s.data.toList) !=0)=true:=by simpa using h0
   have t2:(Qbd ((l,c),s.data.toList)==0)=false:=by simpa using h0
   generalize Qbd ((l,c),s.data.toList)=r at *;clear h0;exact Qnk
 ·have t0:(kd==1)=false:=by simpa using k1
  by_cases k2:kd=2
  ·subst k2;by_cases h0:Qaf (m,e)=0
   ·have H0:=hH h0;rw[h0] at HK;clear h0;cases g:Qbf (l,c) with
    |false=>
     rw[Qda k1 rfl H0.out (.inl g)];rw[g] at HN1;clear k1 HN2;exact Qi7
    |true=>
     rw[g] at HN1;clear HN2;by_cases h1:s.size=0
     ·have t1:s.toList.isEmpty=true:=Qgw h1;by_cases h2:mn<1∨60<mn
      ·rw[Qeo k1 rfl H0.out g (Qe3 h1) h2];have t3:inB mn 1 60=false:=by unfold inB;simp;omega
       rcases h2 with h2|h2
       ·have t2:decide (mn<1)=true:=decide_eq_true h2;clear k1 h1;exact Qi7
       ·have t2:decide (mn<1)=false:=decide_eq_false oM;have t4:decide (60<mn)=true:=decide_eq_true h2;clear k1 h1;exact Qi7
      ·rw[Qd9 k1 rfl H0.out g (Qe3 h1) h2];have t3:inB mn 1 60=true:=by unfold inB;simp;omega
       have t2:decide (mn<1)=false:=decide_eq_false oM;have t4:decide (60<mn)=false:=decide_eq_false oM;have b1:1≤mn:=oM;have b2:mn≤60:=oM;clear k1 h1 h2;simp only;generalize Qb9 (m,e) (mn-1)=nx at *;obtain⟨⟨np,nc⟩,er⟩:=nx;simp only at HX ⊢;exact Qi7
     ·rw[Qda k1 rfl H0.out (.inr (Qdg h1))];have t1:s.toList.isEmpty=false:=Qi3 h1;clear k1 h1;exact Qi7
   ·rw[Qft k1 rfl h0];simp only;have t1:(Qaf (m,e) !=0)=true:=by simpa using h0
    generalize Qaf (m,e)=r at *;clear h0 k1;exact Qi7
  ·rw[Qjz k1 k2];have t1:(kd==2)=false:=by simpa using k2
   have t2:(kd !=2)=true:=by simpa using k2
   clear k1 k2;go_enter Tryz.func85,Tryz.ntmps85;go_wp2_with (first
    |(go_at_call 150;(with_reducible refine(HR.o _ Qac).mono ?_);rintro e' w1 ⟨rfl,hx1⟩;have hz1:=hx1.size;(try simp at hz1);have hb1_0:=zL hx1 w.heap.size;obtain⟨p0,p1,p2,p3,p4,p5,p6⟩:=cC7 hx1 (w.heap.size) (.int .i64 kd) (.slice a1 n1 c1) (.int .i64 c) (.string s) (.slice a2 n2 c2) (.int .i64 e) (.int .i64 mn))
    |(go_at_call 147;(with_reducible refine(HK.o _ Qac).mono ?_);rintro e' w2 ⟨rfl,hx2⟩;have hz2:=hx2.size;(try simp at hz2);have hb2_0:=zL hx2 w.heap.size;obtain⟨q0,q1,q2,q3,q4,q5,q6⟩:=cC7 hx2 (w.heap.size) (.int .i64 kd) (.slice a1 n1 c1) (.int .i64 c) (.string s) (.slice a2 n2 c2) (.int .i64 e) (.int .i64 mn))
    |(go_at_call 151;(with_reducible refine(HN2.o _ Qac).mono ?_);rintro e' w4 ⟨rfl,hx4⟩;have hz4:=hx4.size;(try simp at hz4);have hb4_0:=zL hx4 w.heap.size;obtain⟨s0,s1,s2,s3,s4,s5,s6⟩:=cC7 hx4 (w.heap.size) (.int .i64 kd) (.slice a1 n1 c1) (.int .i64 c) (.string s) (.slice a2 n2 c2) (.int .i64 e) (.int .i64 mn))
    |(go_at_call 151;(with_reducible refine(HN1.o _ Qac).mono ?_);rintro e' w3 ⟨rfl,hx3⟩;have hz3:=hx3.size;(try simp at hz3);have hb3_0:=zL hx3 w.heap.size;obtain⟨r0,r1,r2,r3,r4,r5,r6⟩:=cC7 hx3 (w.heap.size) (.int .i64 kd) (.slice a1 n1 c1) (.int .i64 c) (.string s) (.slice a2 n2 c2) (.int .i64 e) (.int .i64 mn))
    |(go_at_call 152;(with_reducible refine(HX.o _ Qac).mono ?_);rintro e' w5 ⟨cs5,rfl,hm5,hx5⟩;obtain⟨v5,rfl,hv5,_⟩:=hm5;obtain⟨a5,n5,c5,rfl⟩:=hv5.slice;clear hv5)
    |(go_at_call 66;(with_reducible refine(Qas _ _ _ _).mono ?_);rintro e' w' ⟨rfl,rfl⟩))
   go_ret;exact⟨rfl,Qac⟩
def Qf9 (n:Int):Bool:= !inB n 0 500
theorem Qdb {F:Nat→Prop} {w:World} {a:Option Addr} {n cap:Nat} {q:List Int} (h:RSl Qe1 1 F w (.slice a n cap) q) {i:Nat} (hi:i<n):
  ∃b o x,a=some ⟨b,o,none⟩∧b<w.heap.size∧q[i]?=some x∧I64 x∧w.cell? ⟨b,o+i,none⟩=some (.int .i64 x):=by
 obtain⟨b,o,x,cs,e1,e2,e3,_,e4,⟨rfl,i1⟩⟩:=h.at_ hi;exact⟨b,o,x,e1,e2,e3,i1,by simpa using e4 0 _ rfl⟩
theorem Qj9 (n a b:Int) (w:World):Calls Tryz.prog 140 #[.int .i64 n,.int .i64 a,.int .i64 b] w fun e w'=>e= .returned (.bool (inB n a b))∧w=w':=by
 go_enter Tryz.func140,Tryz.ntmps140;go_wp2
 all_goals go_ret
 all_goals first|exact⟨rb (Qxe ‹_›),rfl⟩|exact⟨rb (Qr5 ‹_›),rfl⟩
theorem Qw6 (n:Int) (w:World):Calls Tryz.prog 142 #[.int .i64 n] w fun e w'=>e= .returned (.bool (Qf9 n))∧w=w':=by
 go_enter Tryz.func142,Tryz.ntmps142;go_wp2_with (go_at_call 140;refine(Qj9 _ _ _ _).mono ?_;rintro e w' ⟨rfl,rfl⟩)
 go_ret;exact⟨rfl,rfl⟩
theorem Qw1 (n:Int) (w:World):Calls Tryz.prog 145 #[.int .i64 n] w fun e w'=>e= .returned (.bool (Qf9 n))∧w=w':=by
 by_cases h:n<0
 ·have e:Qf9 n=true:=by unfold Qf9 inB;simp;omega
  rw[e];have t1:decide (n<0)=true:=decide_eq_true h;go_enter Tryz.func145,Tryz.ntmps145;go_wp2
  go_ret;exact⟨rfl,rfl⟩
 ·have t1:decide (n<0)=false:=decide_eq_false h;have e:Qf9 n=decide (500<n):=by
   unfold Qf9 inB;by_cases h2:500<n
   ·rw[decide_eq_true h2];simp;omega
   ·rw[decide_eq_false h2];simp;omega
  rw[e];go_enter Tryz.func145,Tryz.ntmps145;go_wp2
  go_ret;exact⟨rfl,rfl⟩
theorem Qv5 {F:Nat→Prop} {w:World} {v:Value} {l:List Int} (h:RSl Qe1 1 F w v l):
  Calls Tryz.prog 188 #[v,.func (.func 142) #[] #[]] w (Q0q (l.any Qf9) w):=by
 obtain⟨a1,n1,c1,rfl⟩:=h.slice;obtain⟨rfl,k1,k1'⟩:=h.len;unfold maxLen at k1';have q1:l.length≤9223372036854775807:=oM;clear k1 k1';have HL:=hH h;clear h;go_enter Tryz.func188,Tryz.ntmps188;go_wp2
 go_loopw [8] (fun i wr=>∃k:Nat,k≤l.length∧i= .int .i64 k∧Hid ((l.take k).any Qf9=false)∧Ext w wr) (fun i _=>l.length-(intOf i).toNat)
 case atStart=>exact⟨0,oM,rfl,hH sI,ext_refl _⟩
 case round=>
  obtain⟨k,hk1,rfl,ho,hx⟩:=hrel;have HX:=hH hx;clear hx;by_cases h1:k<l.length
  ·obtain⟨b1,o1,x1,rfl,hb1,e1,_,ca⟩:=Qdb (HL.o.ext Qd6 HX.o) h1;have HA:=hH (Qdn (p:=Qf9) e1);clear e1 hb1;cases g1:Qf9 x1 with
   |true=>
    have HC:=hH (Qbz (k:=k+1) (by rw[HA.o,ho.out,g1];rfl));go_wp2_with (go_at_call 142;refine(Qw6 _ _).mono ?_;rintro e w1 ⟨rfl,rfl⟩)
    go_ret;exact⟨k,by rw[HC.o];simp,rfl,HX.o⟩
   |false=>
    have HD:=hH (show(l.take (k+1)).any Qf9=false by rw[HA.o,ho.out,g1];rfl);go_wp2_with (go_at_call 142;refine(Qw6 _ _).mono ?_;rintro e w1 ⟨rfl,rfl⟩)
    go_roundw
    case rel=>exact⟨k+1,oM,by go_num,HD,HX.o⟩
    case measure=>simp[intOf];omega
  ·exact Za3
theorem Zbe {p:Prop} (h:p:=by
 obtain⟨a1,n1,c1,rfl⟩:=h.slice;clear h;go_enter Tryz.func141,Tryz.ntmps141;go_wp2_with (go_at_call 188;refine H.out.mono ?_;rintro e w1 ⟨n,hn,rfl,hx1⟩;have HN:=hH hn;clear hn)
 go_ret;exact⟨rb HN.o,hx1⟩):p:=h
theorem Qm9 {F:Nat→Prop} {w:World} {v:Value} {l:List Int} (h:RSl Qe1 1 F w v l):
  Calls Tryz.prog 141 #[v,.func (.func 142) #[] #[]] w fun e w'=>e= .returned (.bool (l.any Qf9))∧Ext w w':=by
 have H:=hH (Qv5 h);exact Zbe
theorem Qv4 {F:Nat→Prop} {w:World} {v:Value} {l:List Int} (h:RSl Qe1 1 F w v l):
  Calls Tryz.prog 188 #[v,.func (.func 145) #[] #[]] w (Q0q (l.any Qf9) w):=by
 obtain⟨a1,n1,c1,rfl⟩:=h.slice;obtain⟨rfl,k1,k1'⟩:=h.len;unfold maxLen at k1';have q1:l.length≤9223372036854775807:=oM;clear k1 k1';have HL:=hH h;clear h;go_enter Tryz.func188,Tryz.ntmps188;go_wp2
 go_loopw [8] (fun i wr=>∃k:Nat,k≤l.length∧i= .int .i64 k∧Hid ((l.take k).any Qf9=false)∧Ext w wr) (fun i _=>l.length-(intOf i).toNat)
 case atStart=>exact⟨0,oM,rfl,hH sI,ext_refl _⟩
 case round=>
  obtain⟨k,hk1,rfl,ho,hx⟩:=hrel;have HX:=hH hx;clear hx;by_cases h1:k<l.length
  ·obtain⟨b1,o1,x1,rfl,hb1,e1,_,ca⟩:=Qdb (HL.o.ext Qd6 HX.o) h1;have HA:=hH (Qdn (p:=Qf9) e1);clear e1 hb1;cases g1:Qf9 x1 with
   |true=>
    have HC:=hH (Qbz (k:=k+1) (by rw[HA.o,ho.out,g1];rfl));go_wp2_with (go_at_call 145;refine(Qw1 _ _).mono ?_;rintro e w1 ⟨rfl,rfl⟩)
    go_ret;exact⟨k,by rw[HC.o];simp,rfl,HX.o⟩
   |false=>
    have HD:=hH (show(l.take (k+1)).any Qf9=false by rw[HA.o,ho.out,g1];rfl);go_wp2_with (go_at_call 145;refine(Qw1 _ _).mono ?_;rintro e w1 ⟨rfl,rfl⟩)
    go_roundw
    case rel=>exact⟨k+1,oM,by go_num,HD,HX.o⟩
    case measure=>simp[intOf];omega
  ·exact Za3
theorem Qm8 {F:Nat→Prop} {w:World} {v:Value} {l:List Int} (h:RSl Qe1 1 F w v l):
  Calls Tryz.prog 141 #[v,.func (.func 145) #[] #[]] w fun e w'=>e= .returned (.bool (l.any Qf9))∧Ext w w':=by
 have H:=hH (Qv4 h);exact Zbe
def Qce:List De→Int
 | []=>0
 |d::r=>if Qat d≠0 then Qat d else Qce r
theorem Qjx {l:List De} {k:Nat} {d:De} (h:l[k]?=some d) (h1:¬Qat d=0):Qce (l.drop k)=Qat d:=by rw[Qci h];unfold Qce;rw[if_pos h1]
theorem Qh8 {l:List De} {k:Nat} {d:De} (h:l[k]?=some d) (h1:Qat d=0):Qce (l.drop k)=Qce (l.drop (k+1)):=by
 rw[Qci h];conv=>lhs;unfold Qce
 rw[if_neg (by simpa using h1)]
theorem Qjy {l:List De} {k:Nat} (h:l.length≤k):Qce (l.drop k)=0:=by rw[List.drop_eq_nil_of_le h];rfl
theorem Qfd {F:Nat→Prop} {w:World} {a:Option Addr} {n cap:Nat} {q:List De} (h:RSl RDe 7 F w (.slice a n cap) q) {i:Nat} (hi:i<n):
  ∃b o d a1 n1 c1 a2 n2 c2 s,a=some ⟨b,o,none⟩∧b<w.heap.size∧q[i]?=some d∧
   RDe F w [.int .i64 d.kind,.slice a1 n1 c1,.int .i64 d.run.1.2,.string s,.slice a2 n2 c2,.int .i64 d.mark.2,.int .i64 d.many] d∧
   w.cell? ⟨b,o+i * 7,none⟩=some (.int .i64 d.kind)∧w.cell? ⟨b,o+i * 7+1,none⟩=some (.slice a1 n1 c1)∧w.cell? ⟨b,o+i * 7+2,none⟩=some (.int .i64 d.run.1.2)∧
   w.cell? ⟨b,o+i * 7+3,none⟩=some (.string s)∧w.cell? ⟨b,o+i * 7+4,none⟩=some (.slice a2 n2 c2)∧w.cell? ⟨b,o+i * 7+5,none⟩=some (.int .i64 d.mark.2)∧w.cell? ⟨b,o+i * 7+6,none⟩=some (.int .i64 d.many):=by
 obtain⟨b,o,d,cs,e1,e2,e3,_,e4,hd⟩:=h.at_ hi;have hd':=hd;obtain⟨v,x,u,rfl,h1,h2,h3,h4,h5,h6,h7⟩:=hd;obtain⟨a1,n1,c1,rfl⟩:=h2.slice;obtain⟨a2,n2,c2,rfl⟩:=h5.slice;obtain⟨s,rfl,_⟩:=Qby h4;exact⟨b,o,d,a1,n1,c1,a2,n2,c2,s,e1,e2,e3,hd',by simpa using e4 0 _ rfl,by simpa [Nat.add_assoc] using e4 1 _ rfl,by simpa [Nat.add_assoc] using e4 2 _ rfl,by simpa [Nat.add_assoc] using e4 3 _ rfl,by simpa [Nat.add_assoc] using e4 4 _ rfl,by simpa [Nat.add_assoc] using e4 5 _ rfl,by simpa [Nat.add_assoc] using e4 6 _ rfl⟩
def Qa0 (n:No):Int:=
 if inB n.site 0 4=false∨inB n.number 1 500=false then 3
 else if n.needs.length≠5 then 1
 else if n.needs.any Qf9=true then 3
 else if n.needs[n.site.toNat]?.getD 0≠n.number-1 then 4
 else if n.deeds.length=0 then 1
 else if 20<n.deeds.length then 2
 else Qce n.deeds
section
variable {n:No}
theorem Qhq (h:inB n.site 0 4=false):Qa0 n=3:=by unfold Qa0;rw[if_pos (.inl h)]
theorem Qff (h:inB n.number 1 500=false):Qa0 n=3:=by unfold Qa0;rw[if_pos (.inr h)]
theorem Qi1 (h:inB n.site 0 4=true) (h2:inB n.number 1 500=true) (h3:n.needs.length≠5):Qa0 n=1:=by unfold Qa0;rw[if_neg (by rw[h,h2];simp),if_pos h3]
theorem Qgd (h:inB n.site 0 4=true) (h2:inB n.number 1 500=true) (h3:n.needs.length=5) (h4:n.needs.any Qf9=true):Qa0 n=3:=by
 unfold Qa0;rw[if_neg (by rw[h,h2];simp),if_neg (by simpa using h3),if_pos h4]
theorem Qfu (h:inB n.site 0 4=true) (h2:inB n.number 1 500=true) (h3:n.needs.length=5) (h4:n.needs.any Qf9=false):Qa0 n=
  if n.needs[n.site.toNat]?.getD 0≠n.number-1 then 4 else if n.deeds.length=0 then 1 else if 20<n.deeds.length then 2 else Qce n.deeds:=by
 unfold Qa0;rw[if_neg (by rw[h,h2];simp),if_neg (by simpa using h3),if_neg (by rw[h4];simp)]
end
theorem Qnu {s:Int} (h:inB s 0 4=true):∃j:Nat,s=(j:Int)∧j<5:=by
 unfold inB at h;simp at h;exact⟨s.toNat,oM,oM⟩
theorem Qsi {s:Int} (h:inB s 1 500=true):1≤s∧s≤500:=by
 unfold inB at h;simpa using h
theorem Q3v {F:Nat→Prop} {w:World} {v u:Value} {s k:Int} {l:List Int} {q:List De} (hs:I64 s) (hk:I64 k) (hl:RSl Qe1 1 F w v l) (hq:RSl RDe 7 F w u q):RNo F w [.int .i64 s,.int .i64 k,v,u] ⟨s,k,l,q⟩:=⟨v,u,rfl,hs,hk,hl,hq⟩
theorem Qnm {p:Prop} (h:p:=by
 go_enter Tryz.func74,Tryz.ntmps74;go_wp2_with (first
  |(go_at_call 128;(with_reducible refine(Qfj _ _).mono ?_);rintro e w' ⟨rfl,rfl⟩)
  |(go_at_call 140;(with_reducible refine(Qj9 _ _ _ _).mono ?_);rintro e w' ⟨rfl,rfl⟩)
  |(go_at_call 141;go_must ((with_reducible refine(HCI.o _ Qac).mono ?_);rintro e w1 ⟨rfl,hx1⟩;have hz1:=hx1.size;(try simp at hz1);have hb1_0:=zL hx1 w.heap.size;obtain⟨p0,p1,p2,p3⟩:=cC4 hx1 (w.heap.size) (.int .i64 (j:Nat)) (.int .i64 nb) (.slice (some ⟨bn,on,none⟩) l.length cl) (.slice ad q.length cd))))
 go_ret;exact⟨rfl,Qac⟩):p:=h
theorem Zbc {p:Prop} (h:p:=by
 clear eW2;refine Qaa fol kR (fun hlater=> ?_);repeat(go_big_quiet_step ((fail)))
 refine wpQuiet_nil ?_;rintro w3 ⟨⟨w3x,hx3⟩,rfl⟩;clear hlater;go_wp2_with fail
 go_ret;exact⟨ri (by rw[HR.o,if_pos (by rw[HEX.o];exact g5)]),ext_trans hw2 hx3⟩):p:=h
theorem Qjl {F:Nat→Prop} {w:World} {cs:List Value} {n:No} (h:RNo F w cs n):
  Calls Tryz.prog 74 #[.agg cs.toArray] w fun e w'=>e= .returned (.int .i64 (Qa0 n))∧Ext w w':=by
 obtain⟨v,u,rfl,hi,hj,hl,hd⟩:=h;obtain⟨st,nb,l,q⟩:=n;simp only at hi hj hl hd ⊢;have HL:=hH (fun(W:World) (hx:Ext w W)=>hl.ext Qd6 hx);have HD:=hH (fun(W:World) (hx:Ext w W)=>hd.ext gDe hx);have HCI:=hH (fun(W:World) (hx:Ext w W)=>Qm9 (hl.ext Qd6 hx));obtain⟨al,nl,cl,rfl⟩:=hl.slice;obtain⟨rfl,_,_⟩:=hl.len;obtain⟨ad,nd,cd,rfl⟩:=hd.slice;obtain⟨rfl,hn1,hn2⟩:=hd.len;unfold maxLen at hn2;have q1:q.length≤9223372036854775807:=oM;clear hl hd hn1 hn2 hi hj;cases g1:inB st 0 4 with
 |false=>
  rw[Qhq g1];exact Qnm
 |true=>
 cases g2:inB nb 1 500 with
 |false=>
  rw[Qff g2];exact Qnm
 |true=>
 by_cases g3:l.length=5
 ·have t3:((l.length:Int) !=5)=false:=by rw[g3];rfl
  have HG3:=hH g3;obtain⟨j,rfl,hj⟩:=Qnu g1;obtain⟨b1,b2⟩:=Qsi g2;have hjl:j<l.length:=oM;obtain⟨bn,on,x,rfl,hbn,ex,ix,y0⟩:=Qdb (HL.o w (ext_refl _)) hjl;have HEX:=hH (show l[(j:Int).toNat]?.getD 0=x by simp[ex]);have hn1:¬bn=w.heap.size:=oM;have hn2:¬w.heap.size=bn:=oM;clear g3 ex;cases g4:l.any Qf9 with
  |true=>
   rw[Qgd g1 g2 HG3.o g4];rw[g4] at HCI;clear HD;exact Qnm
  |false=>
   have HR:=hH (Qfu (n:=⟨(j:Nat),nb,l,q⟩) g1 g2 HG3.o g4);simp only at HR;rw[g4] at HCI;go_enter Tryz.func74,Tryz.ntmps74;go_wp2_with (first
    |(go_at_call 128;(with_reducible refine(Qfj _ _).mono ?_);rintro e w' ⟨rfl,rfl⟩)
    |(go_at_call 140;(with_reducible refine(Qj9 _ _ _ _).mono ?_);rintro e w' ⟨rfl,rfl⟩)
    |(go_at_call 141;go_must ((with_reducible refine(HCI.o _ Qac).mono ?_);rintro e w1 ⟨rfl,hx1⟩;have hz1:=hx1.size;(try simp at hz1);have hb1_0:=zL hx1 w.heap.size;obtain⟨p0,p1,p2,p3⟩:=cC4 hx1 (w.heap.size) (.int .i64 (j:Nat)) (.int .i64 nb) (.slice (some ⟨bn,on,none⟩) l.length cl) (.slice ad q.length cd);have y5:=cL hx1 bn (on+j) (.int .i64 x))))
   by_cases g5:x=nb-1
   ·have t5:(x !=nb-1)=false:=by rw[g5];simp
    have H5:=hH g5;clear g5;refine Qad (fun W2 eW2=> ?_);obtain⟨e0,e1,e2,e3⟩:=rR4 eW2 w.heap.size (.int .i64 (j:Nat)) (.int .i64 nb) (.slice (some ⟨bn,on,none⟩) l.length cl) (.slice ad q.length cd);have e4:=rL eW2 ⟨bn,on+j,none⟩ (.int .i64 x);have zW2_0:=zE eW2 w.heap.size;have zW2_1:=zE eW2 bn;have hw2:=xE w eW2;clear eW2;refine Qaa fol kR (fun hlater=> ?_);repeat(go_big_quiet_step ((fail)))
    refine wpQuiet_nil ?_;rintro w3 ⟨⟨w3x,hx3⟩,rfl⟩;clear hlater;have fz0:=(hx3.cells (w.heap.size) (0) oM).trans e0;have fz1:=(hx3.cells (w.heap.size) (1) oM).trans e1;have fz2:=(hx3.cells (w.heap.size) (2) oM).trans e2;have fz3:=(hx3.cells (w.heap.size) (3) oM).trans e3;have hz3:=hx3.size;have hb3:w.heap.size<w3.heap.size:=oM;have hw3:Ext w w3:=ext_trans hw2 hx3;clear hx3 hw2 e0 e1 e2 e3 e4;by_cases g6:q.length=0
    ·have t6:((q.length:Int)==0)=true:=by rw[beq_iff_eq];omega
     go_wp2_with fail
     go_ret;exact⟨ri (by rw[HR.o,if_neg (by rw[HEX.o,H5.out];simp),if_pos g6]),hw3⟩
    have t6:((q.length:Int)==0)=false:=by rw[beq_eq_false_iff_ne];omega
    by_cases g7:20<q.length
    ·go_wp2_with fail
     go_ret;exact⟨ri (by rw[HR.o,if_neg (by rw[HEX.o,H5.out];simp),if_neg g6,if_pos g7]),hw3⟩
    have HI0:=hH (show Qa0 ⟨(j:Nat),nb,l,q⟩=Qce (q.drop 0) by rw[HR.o,if_neg (by rw[HEX.o,H5.out];simp),if_neg g6,if_neg g7];rfl);clear HR HEX H5 g6;have HW3:=hH hw3;clear hw3;go_wp2_with fail
    go_loopw [50] (fun i wr=>∃k:Nat,k≤q.length∧i= .int .i64 k∧Hid (Qa0 ⟨(j:Nat),nb,l,q⟩=Qce (q.drop k))∧Ext w3 wr) (fun i _=>q.length-(intOf i).toNat)
    case atStart=>exact⟨0,Nat.zero_le _,rfl,HI0,ext_refl _⟩
    case round=>
     obtain⟨k,hk,rfl,HI,hx⟩:=hrel;obtain⟨z0,z1,z2,z3⟩:=tT4 hx hb3 fz0 fz1 fz2 fz3;have hzr:=hx.size;have hbr:w.heap.size<wr.heap.size:=oM;have HX:=hH (ext_trans HW3.o hx);have HXQ:=hH hx;clear hx;by_cases hlt:k<q.length
     ·obtain⟨b,o,d,a1,n1,c1,a2,n2,c2,s,rfl,hb,ek,hdd,y0,y1,y2,y3,y4,y5,y6⟩:=Qfd (HD.o wr HX.o) hlt;have HC:=hH (fun(W:World) (hx:Ext wr W)=>Qjk (gDe.ext hdd hx));have hn3:¬b=wr.heap.size:=oM;have hn4:¬wr.heap.size=b:=oM;clear hdd;by_cases g8:Qat d=0
      ·have HN:=hH (HI.o.trans (Qh8 ek g8));rw[g8] at HC;clear g8 ek;go_wp2_with (go_at_call 143;go_must ((with_reducible refine(HC.o _ Qac).mono ?_);rintro e w4 ⟨rfl,hx4⟩;have hz4:=hx4.size;(try simp at hz4);have hb4_0:=zL hx4 w.heap.size;have v0:=cL hx4 (w.heap.size) (3) (.slice (some ⟨b,o,none⟩) q.length cd)))
       go_roundw
       case rel=>exact⟨k+1,oM,by go_num,HN,ext_trans HXQ.o Qac⟩
       case measure=>simp[intOf];omega
      ·have HN:=hH (HI.o.trans (Qjx ek g8));have t8:(Qat d !=0)=true:=by simpa using g8
       generalize Qat d=cd' at *;clear g8 ek;go_wp2_with (go_at_call 143;go_must ((with_reducible refine(HC.o _ Qac).mono ?_);rintro e w4 ⟨rfl,hx4⟩;have hz4:=hx4.size;(try simp at hz4);have hb4_0:=zL hx4 w.heap.size;have v0:=cL hx4 (w.heap.size) (3) (.slice (some ⟨b,o,none⟩) q.length cd)))
       go_ret;exact⟨ri HN.o.symm,ext_trans HX.o Qac⟩
     ·go_wp2_with fail
      go_ret;exact⟨ri (by rw[HI.o,Qjy oM]),HX.o⟩
   ·have t5:(x !=nb-1)=true:=by simpa using g5
    refine Qad (fun W2 eW2=> ?_);obtain⟨e0,e1,e2,e3⟩:=rR4 eW2 w.heap.size (.int .i64 (j:Nat)) (.int .i64 nb) (.slice (some ⟨bn,on,none⟩) l.length cl) (.slice ad q.length cd);have e4:=rL eW2 ⟨bn,on+j,none⟩ (.int .i64 x);have zW2_0:=zE eW2 w.heap.size;have zW2_1:=zE eW2 bn;have hw2:=xE w eW2;exact Zbc
 ·rw[Qi1 g1 g2 g3];have t3:((l.length:Int) !=5)=true:=by rw[bne_iff_ne];omega
  clear g3;exact Qnm
theorem Za5 {p:Prop} (h:p:=by
 go_enter Tryz.func29,Tryz.ntmps29;go_wp2_with (first
  |(go_at_call 66;(with_reducible refine(Qas _ _ _ _).mono ?_);rintro e w' ⟨rfl,rfl⟩))
 go_ret;exact⟨rfl,Qac⟩):p:=h
theorem Qrs {F:Nat→Prop} {w:World} {cs:List Value} {n:No} (h:RNo F w cs n):
  Calls Tryz.prog 29 #[.agg cs.toArray] w fun e w'=>e= .returned (.int .i64 (Qa0 n))∧Ext w w':=by
 obtain⟨v,u,rfl,hi,hj,hl,hd⟩:=h;obtain⟨st,nb,l,q⟩:=n;simp only at hi hj hl hd ⊢;have HL:=hH (fun(W:World) (hx:Ext w W)=>hl.ext Qd6 hx);have HD:=hH (fun(W:World) (hx:Ext w W)=>hd.ext gDe hx);obtain⟨al,nl,cl,rfl⟩:=hl.slice;obtain⟨rfl,_,_⟩:=hl.len;obtain⟨ad,nd,cd,rfl⟩:=hd.slice;obtain⟨rfl,hn1,hn2⟩:=hd.len;unfold maxLen at hn2;have q1:q.length≤9223372036854775807:=oM;clear hl hd hn1 hn2 hi hj;cases g1:inB st 0 4 with
 |false=>
  rw[Qhq g1];exact Za5
 |true=>
 cases g2:inB nb 1 500 with
 |false=>
  rw[Qff g2];exact Za5
 |true=>
 by_cases g3:l.length=5
 ·have t3:((l.length:Int) !=5)=false:=by rw[g3];rfl
  have HG3:=hH g3;obtain⟨j,rfl,hj⟩:=Qnu g1;obtain⟨b1,b2⟩:=Qsi g2;have hjl:j<l.length:=oM;obtain⟨bn,on,x,rfl,hbn,ex,ix,y0⟩:=Qdb (HL.o w (ext_refl _)) hjl;have HEX:=hH (show l[(j:Int).toNat]?.getD 0=x by simp[ex]);have hn1:¬bn=w.heap.size:=oM;have hn2:¬w.heap.size=bn:=oM;clear g3 ex;go_enter Tryz.func29,Tryz.ntmps29;go_wp2_with (go_at_call 66;(with_reducible refine(Qas _ _ _ _).mono ?_);rintro e w' ⟨rfl,rfl⟩)
  go_loopw [3] (fun i wr=>∃k:Nat,k≤5∧i= .int .i64 k∧Hid ((l.take k).any Qf9=false)∧Ext (w.alloc (.cells #[.int .i64 (j:Nat),.int .i64 nb,.slice (some ⟨bn,on,none⟩) l.length cl,.slice ad q.length cd] 48)) wr) (fun i _=>5-(intOf i).toNat)
  case atStart=>exact⟨0,oM,rfl,hH sI,ext_refl _⟩
  case round=>
   obtain⟨k,hk,rfl,HI,hx⟩:=hrel;have z0:wr.cell? ⟨w.heap.size,0,none⟩=some (.int .i64 (j:Nat)):=(hx.cells _ _ sO).trans gS;have z1:wr.cell? ⟨w.heap.size,1,none⟩=some (.int .i64 nb):=(hx.cells _ _ sO).trans gS;have z2:wr.cell? ⟨w.heap.size,2,none⟩=some (.slice (some ⟨bn,on,none⟩) l.length cl):=(hx.cells _ _ sO).trans gS;have z3:wr.cell? ⟨w.heap.size,3,none⟩=some (.slice ad q.length cd):=(hx.cells _ _ sO).trans gS;have z4:wr.cell? ⟨bn,on+j,none⟩=some (.int .i64 x):=(hx.cells _ _ sO).trans gS;have hzr:=hx.size
   (try simp at hzr)
   have hbr:w.heap.size<wr.heap.size:=oM;have hbn2:bn<wr.heap.size:=oM;have HX:=hH (ext_trans (ext_alloc (ext_refl _) _) hx);have HXR:=hH hx;clear hx;by_cases hlt:k<5
   ·have hkl:k<l.length:=by have:=HG3.o;omega
    obtain⟨bn',on',x1,ea,_,e1,_,ca⟩:=Qdb (HL.o wr HX.o) (i:=k) hkl;obtain⟨rfl,rfl⟩:bn=bn'∧on=on':=by injection ea with ea;injection ea with ea1 ea2;exact⟨ea1,ea2⟩
    clear ea;have HA:=hH (Qdn (p:=Qf9) e1);clear e1;cases g4:inB x1 0 500 with
    |true=>
     have HN:=hH (show(l.take (k+1)).any Qf9=false by rw[HA.o,HI.o];unfold Qf9;rw[g4];rfl);go_wp2_with (go_at_call 66;(with_reducible refine(Qas _ _ _ _).mono ?_);rintro e w' ⟨rfl,rfl⟩)
     go_roundw
     case rel=>exact⟨k+1,oM,by go_num,HN,HXR.o⟩
     case measure=>simp[intOf];omega
    |false=>
     have HC:=hH (Qgd (n:=⟨(j:Nat),nb,l,q⟩) g1 g2 HG3.o (Qbz (k:=k+1) (by rw[HA.o,HI.o];unfold Qf9;rw[g4];rfl)));go_wp2_with (go_at_call 66;(with_reducible refine(Qas _ _ _ _).mono ?_);rintro e w' ⟨rfl,rfl⟩)
     go_ret;exact⟨ri HC.o.symm,HX.o⟩
   ·have hk5:k=l.length:=by have:=HG3.o;omega
    have hi:=HI.o;rw[hk5,List.take_of_length_le (Nat.le_refl _)] at hi;have HR:=hH (Qfu (n:=⟨(j:Nat),nb,l,q⟩) g1 g2 HG3.o hi);simp only at HR;clear hi hk5 HI;go_wp2_with fail
    by_cases g5:x=nb-1
    ·have t5:(x !=nb-1)=false:=by rw[g5];simp
     have H5:=hH g5;clear g5;refine Qad (fun W2 eW2=> ?_);obtain⟨e0,e1,e2,e3⟩:=rR4 eW2 w.heap.size (.int .i64 (j:Nat)) (.int .i64 nb) (.slice (some ⟨bn,on,none⟩) l.length cl) (.slice ad q.length cd);have e4:=rL eW2 ⟨bn,on+j,none⟩ (.int .i64 x);have zW2_0:=zE eW2 w.heap.size;have zW2_1:=zE eW2 bn;have hw2:=xE w eW2 (ext_trans HX.o Qac);clear eW2;refine Qaa fol kR (fun hlater=> ?_);repeat(go_big_quiet_step ((fail)))
     refine wpQuiet_nil ?_;rintro w3 ⟨⟨w3x,hx3⟩,rfl⟩;clear hlater;have fz0:=(hx3.cells (w.heap.size) (0) oM).trans e0;have fz1:=(hx3.cells (w.heap.size) (1) oM).trans e1;have fz2:=(hx3.cells (w.heap.size) (2) oM).trans e2;have fz3:=(hx3.cells (w.heap.size) (3) oM).trans e3;have hz3:=hx3.size;have hb3:w.heap.size<w3.heap.size:=oM;have hw3:Ext w w3:=ext_trans hw2 hx3;clear hx3 hw2 e0 e1 e2 e3 e4;by_cases g6:q.length=0
     ·have t6:((q.length:Int)==0)=true:=by rw[beq_iff_eq];omega
      go_wp2_with fail
      go_ret;exact⟨ri (by rw[HR.o,if_neg (by rw[HEX.o,H5.out];simp),if_pos g6]),hw3⟩
     have t6:((q.length:Int)==0)=false:=by rw[beq_eq_false_iff_ne];omega
     by_cases g7:20<q.length
     ·go_wp2_with fail
      go_ret;exact⟨ri (by rw[HR.o,if_neg (by rw[HEX.o,H5.out];simp),if_neg g6,if_pos g7]),hw3⟩
     have HI0:=hH (show Qa0 ⟨(j:Nat),nb,l,q⟩=Qce (q.drop 0) by rw[HR.o,if_neg (by rw[HEX.o,H5.out];simp),if_neg g6,if_neg g7];rfl);clear HR HEX H5 g6;have HW3:=hH hw3;clear hw3;go_wp2_with fail
     go_loopw [4] (fun i wr=>∃k:Nat,k≤q.length∧i= .int .i64 k∧Hid (Qa0 ⟨(j:Nat),nb,l,q⟩=Qce (q.drop k))∧Ext w3 wr) (fun i _=>q.length-(intOf i).toNat)
     case atStart=>exact⟨0,Nat.zero_le _,rfl,HI0,ext_refl _⟩
     case round=>
      obtain⟨k,hk,rfl,HI,hx⟩:=hrel;obtain⟨z0,z1,z2,z3⟩:=tT4 hx hb3 fz0 fz1 fz2 fz3;have hzr:=hx.size;have hbr:w.heap.size<wr.heap.size:=oM;have HX:=hH (ext_trans HW3.o hx);have HXQ:=hH hx;clear hx;by_cases hlt:k<q.length
      ·obtain⟨b,o,d,a1,n1,c1,a2,n2,c2,s,rfl,hb,ek,hdd,y0,y1,y2,y3,y4,y5,y6⟩:=Qfd (HD.o wr HX.o) hlt;have HC:=hH (fun(W:World) (hx:Ext wr W)=>Qkd (gDe.ext hdd hx));have hn3:¬b=wr.heap.size:=oM;have hn4:¬wr.heap.size=b:=oM;clear hdd;by_cases g8:Qat d=0
       ·have HN:=hH (HI.o.trans (Qh8 ek g8));rw[g8] at HC;clear g8 ek;go_wp2_with (go_at_call 85;go_must ((with_reducible refine(HC.o _ Qac).mono ?_);rintro e w4 ⟨rfl,hx4⟩;have hz4:=hx4.size;(try simp at hz4);have hb4_0:=zL hx4 w.heap.size;have v0:=cL hx4 (w.heap.size) (3) (.slice (some ⟨b,o,none⟩) q.length cd)))
        go_roundw
        case rel=>exact⟨k+1,oM,by go_num,HN,ext_trans HXQ.o Qac⟩
        case measure=>simp[intOf];omega
       ·have HN:=hH (HI.o.trans (Qjx ek g8));have t8:(Qat d !=0)=true:=by simpa using g8
        generalize Qat d=cd' at *;clear g8 ek;go_wp2_with (go_at_call 85;go_must ((with_reducible refine(HC.o _ Qac).mono ?_);rintro e w4 ⟨rfl,hx4⟩;have hz4:=hx4.size;(try simp at hz4);have hb4_0:=zL hx4 w.heap.size;have v0:=cL hx4 (w.heap.size) (3) (.slice (some ⟨b,o,none⟩) q.length cd)))
        go_ret;exact⟨ri HN.o.symm,ext_trans HX.o Qac⟩
      ·go_wp2_with fail
       go_ret;exact⟨ri (by rw[HI.o,Qjy oM]),HX.o⟩
    ·have t5:(x !=nb-1)=true:=by simpa using g5
     refine Qad (fun W2 eW2=> ?_);obtain⟨e0,e1,e2,e3⟩:=rR4 eW2 w.heap.size (.int .i64 (j:Nat)) (.int .i64 nb) (.slice (some ⟨bn,on,none⟩) l.length cl) (.slice ad q.length cd);have e4:=rL eW2 ⟨bn,on+j,none⟩ (.int .i64 x);have zW2_0:=zE eW2 w.heap.size;have zW2_1:=zE eW2 bn;have hw2:=xE w eW2 (ext_trans HX.o Qac);exact Zbc
 ·rw[Qi1 g1 g2 g3];have t3:((l.length:Int) !=5)=true:=by rw[bne_iff_ne];omega
  clear g3;exact Za5
def Qbx (l:List Int):Int:=if l.length≠5 then 1 else if l.any Qf9=true then 3 else 0
def atI (l:List Int) (i:Nat):Int:=l[i]?.getD 0
def Qk4 (a b:Int):Int:=if a<b then b else a
def Qgh (l m:List Int):Bool:=(List.range 5).all fun i=>decide (atI m i≤atI l i)
theorem Qp9 {l:List Int} (h:l.length≠5):Qbx l=1:=by unfold Qbx;rw[if_pos h]
theorem Qp8 {l:List Int} (h:l.length=5) (h2:l.any Qf9=true):Qbx l=3:=by unfold Qbx;rw[if_neg (by simpa using h),if_pos h2]
theorem Qkh {l:List Int} (h:l.length=5) (h2:l.any Qf9=false):Qbx l=0:=by unfold Qbx;rw[if_neg (by simpa using h),if_neg (by rw[h2];simp)]
theorem Qhp {l:List Int} (h:Qbx l=0):l.length=5∧l.any Qf9=false:=by
 unfold Qbx at h;by_cases h1:l.length≠5
 ·rw[if_pos h1] at h;omega
 ·rw[if_neg h1] at h;refine⟨oM,?_⟩;cases g:l.any Qf9 with
  |false=>rfl
  |true=>rw[g] at h;simp at h
theorem Qe2 {l:List Int} {i:Nat} {x:Int} (h:l[i]?=some x):x=atI l i:=by unfold atI;rw[h];rfl
theorem Qpf {l:List Int} {n:Nat} (h:l.length=n):l=Vao (atI l) n:=by
 apply List.ext_getElem?
 intro i;by_cases hi:i<n
 ·rw[Qx8 hi];unfold atI;rw[List.getElem?_eq_getElem oM];rfl
 ·rw[List.getElem?_eq_none oM,List.getElem?_eq_none (by rw[Qx9];omega)]
theorem Qw0 {p:Nat→Bool} {k:Nat}:(List.range (k+1)).all p=((List.range k).all p && p k):=by rw[List.range_succ,List.all_append];simp
theorem Q00 {p:Nat→Bool} {k n:Nat} (hk:k<n) (h:p k=false):(List.range n).all p=false:=by
 rw[List.all_eq_false];exact⟨k,List.mem_range.2 hk,by rw[h];simp⟩
theorem Qyo {F:Nat→Prop} {w:World} {v:Value} {l:List Int} (h:RSl Qe1 1 F w v l):
  Calls Tryz.prog 76 #[v] w fun e w'=>e= .returned (.int .i64 (Qbx l))∧Ext w w':=by
 have HC:=hH (fun(W:World) (hx:Ext w W)=>Qm8 (h.ext Qd6 hx));obtain⟨a,n,c,rfl⟩:=h.slice;obtain⟨rfl,_,_⟩:=h.len;clear h;by_cases h5:l.length=5
 ·have t5:((l.length:Int) !=5)=false:=by rw[h5];rfl
  cases g:l.any Qf9 with
  |true=>
   rw[Qp8 h5 g];rw[g] at HC;clear h5;go_enter Tryz.func76,Tryz.ntmps76;go_wp2_with (go_at_call 141;go_must ((with_reducible refine(HC.o _ Qac).mono ?_);rintro e w1 ⟨rfl,hx1⟩))
   go_ret;exact⟨rfl,Qac⟩
  |false=>
   rw[Qkh h5 g];rw[g] at HC;clear h5;go_enter Tryz.func76,Tryz.ntmps76;go_wp2_with (go_at_call 141;go_must ((with_reducible refine(HC.o _ Qac).mono ?_);rintro e w1 ⟨rfl,hx1⟩))
   go_ret;exact⟨rfl,Qac⟩
 ·rw[Qp9 h5];have t5:((l.length:Int) !=5)=true:=by rw[bne_iff_ne];omega
  clear h5;go_enter Tryz.func76,Tryz.ntmps76;go_wp2
  go_ret;exact⟨rfl,ext_refl _⟩
theorem Qru {F:Nat→Prop} {w:World} {v:Value} {l:List Int} (h:RSl Qe1 1 F w v l):
  Calls Tryz.prog 80 #[v] w fun e w'=>e= .returned (.int .i64 (Qbx l))∧w=w':=by
 have HL:=hH h;obtain⟨a,n,c,rfl⟩:=h.slice;obtain⟨rfl,_,_⟩:=h.len;clear h;by_cases h5:l.length=5
 ·have t5:((l.length:Int) !=5)=false:=by rw[h5];rfl
  have H5:=hH h5;clear h5;go_enter Tryz.func80,Tryz.ntmps80;go_wp2
  go_loop [3] (fun i=>∃k:Nat,k≤5∧i= .int .i64 k∧Hid ((l.take k).any Qf9=false)) (fun i=>5-(intOf i).toNat)
  case atStart=>exact⟨0,oM,rfl,hH sI⟩
  case round=>
   obtain⟨k,hk,rfl,HI⟩:=hrel;by_cases hlt:k<5
   ·have hkl:k<l.length:=by have:=H5.out;omega
    obtain⟨b,o,x,rfl,hb,e1,_,ca⟩:=Qdb HL.o hkl;have HA:=hH (Qdn (p:=Qf9) e1);clear e1;cases g:inB x 0 500 with
    |true=>
     have HN:=hH (show(l.take (k+1)).any Qf9=false by rw[HA.o,HI.o];unfold Qf9;rw[g];rfl);go_wp2_with (go_at_call 66;(with_reducible refine(Qas _ _ _ _).mono ?_);rintro e w' ⟨rfl,rfl⟩)
     go_round
     case rel=>exact⟨k+1,oM,by go_num,HN⟩
     case measure=>simp[intOf];omega
    |false=>
     have HC:=hH (Qp8 H5.out (Qbz (k:=k+1) (by rw[HA.o,HI.o];unfold Qf9;rw[g];rfl)));go_wp2_with (go_at_call 66;(with_reducible refine(Qas _ _ _ _).mono ?_);rintro e w' ⟨rfl,rfl⟩)
     go_ret;exact⟨ri HC.o.symm,rfl⟩
   ·have hk5:l.length≤k:=by have:=H5.out;omega
    have hi:=HI.o;rw[List.take_of_length_le hk5] at hi;have HC:=hH (Qkh H5.out hi);clear hk5 hi HI;go_wp2
    go_ret;exact⟨ri HC.o.symm,rfl⟩
 ·rw[Qp9 h5];have t5:((l.length:Int) !=5)=true:=by rw[bne_iff_ne];omega
  clear h5;go_enter Tryz.func80,Tryz.ntmps80;go_wp2
  go_ret;exact⟨rfl,rfl⟩
theorem Qmw (a b:Int) (w:World):Calls Tryz.prog 186 #[.int .i64 a,.int .i64 b] w fun e w'=>e= .returned (.bool (decide (b≤a)))∧w=w':=by
 go_enter Tryz.func186,Tryz.ntmps186;go_wp2
 go_ret;exact⟨rfl,rfl⟩
theorem Q46 {F G:Nat→Prop} {w:World} {v u:Value} {l m:List Int} (h:RSl Qe1 1 F w v l) (k:RSl Qe1 1 G w u m) (h5:l.length=5) (k5:m.length=5):
  Calls Tryz.prog 185 #[v,u,.func (.func 186) #[] #[]] w fun e w'=>e= .returned (.bool (Qgh l m))∧Ext w w':=by
 have HL:=hH (fun(W:World) (hx:Ext w W)=>h.ext Qd6 hx);have HM:=hH (fun(W:World) (hx:Ext w W)=>k.ext Qd6 hx);obtain⟨a,n,c,rfl⟩:=h.slice;obtain⟨a2,n2,c2,rfl⟩:=k.slice;obtain rfl:n=5:=h.len.1.trans h5;obtain rfl:n2=5:=k.len.1.trans k5;clear h k;go_enter Tryz.func185,Tryz.ntmps185;go_wp2
 go_loopw [10] (fun i wr=>∃q:Nat,q≤5∧i= .int .i64 q∧Hid ((List.range q).all (fun i=>decide (atI m i≤atI l i))=true)∧Ext w wr) (fun i _=>5-(intOf i).toNat)
 case atStart=>exact⟨0,oM,rfl,hH sI,ext_refl _⟩
 case round=>
  obtain⟨q,hq,rfl,HI,hx⟩:=hrel;have HX:=hH hx;clear hx;by_cases hlt:q<5
  ·obtain⟨b,o,x,rfl,hb,e1,_,ca⟩:=Qdb (HL.o wr HX.o) hlt;obtain⟨b2,o2,y,rfl,hb2,e2,_,ca2⟩:=Qdb (HM.o wr HX.o) hlt;have hxx:=Qe2 e1;have hyy:=Qe2 e2;clear e1 e2;by_cases g:y≤x
   ·have t1:decide (y≤x)=true:=decide_eq_true g;have HN:=hH (show(List.range (q+1)).all (fun i=>decide (atI m i≤atI l i))=true by rw[Qw0,HI.o,←hxx,←hyy,t1];rfl);clear hxx hyy g;go_wp2_with fail
    refine Qad (fun W2 eW2=> ?_);have e0:=rL eW2 ⟨b,o+q,none⟩ (.int .i64 x);have e1:=rL eW2 ⟨b2,o2+q,none⟩ (.int .i64 y);have zW2_0:=zE eW2 b;have zW2_1:=zE eW2 b2;have hw2:=xE wr eW2;clear eW2;refine Qaa fol kR (fun hlater=> ?_);repeat(go_big_quiet_step ((first
      |(go_at_call 186;(with_reducible exact Qqs (Qmw _ _ _))))))
    refine wpQuiet_nil ?_;rintro w3 ⟨⟨w3x,hx3⟩,rfl⟩;clear hlater;go_wp2_with fail
    go_roundw
    case rel=>exact⟨q+1,oM,by go_num,HN,ext_trans HX.o (ext_trans hw2 hx3)⟩
    case measure=>simp[intOf];omega
   ·have t1:decide (y≤x)=false:=decide_eq_false g;have HC:=hH (show Qgh l m=false from Q00 (k:=q) hlt (by rw[←hxx,←hyy,t1]));clear hxx hyy g;go_wp2_with fail
    refine Qad (fun W2 eW2=> ?_);have e0:=rL eW2 ⟨b,o+q,none⟩ (.int .i64 x);have e1:=rL eW2 ⟨b2,o2+q,none⟩ (.int .i64 y);have zW2_0:=zE eW2 b;have zW2_1:=zE eW2 b2;have hw2:=xE wr eW2;clear eW2;refine Qaa fol kR (fun hlater=> ?_);repeat(go_big_quiet_step ((first
      |(go_at_call 186;(with_reducible exact Qqs (Qmw _ _ _))))))
    refine wpQuiet_nil ?_;rintro w3 ⟨⟨w3x,hx3⟩,rfl⟩;clear hlater;go_wp2_with fail
    go_ret;exact⟨rb HC.o.symm,ext_trans HX.o (ext_trans hw2 hx3)⟩
  ·have hq5:q=5:=oM;have hi:=HI.o;rw[hq5] at hi;have HC:=hH (show Qgh l m=true from hi);clear hq5 hi HI;go_wp2
   go_ret;exact⟨rb HC.o.symm,HX.o⟩
theorem Qzd {F G:Nat→Prop} {w:World} {v u:Value} {l m:List Int} (h:RSl Qe1 1 F w v l) (k:RSl Qe1 1 G w u m) (h5:l.length=5) (k5:m.length=5):
  Calls Tryz.prog 134 #[v,u] w fun e w'=>e= .returned (.bool (Qgh l m))∧Ext w w':=by
 have HA:=hH (Q46 h k h5 k5);obtain⟨a,n,c,rfl⟩:=h.slice;obtain⟨a2,n2,c2,rfl⟩:=k.slice;clear h k;go_enter Tryz.func134,Tryz.ntmps134;go_wp2_with (go_at_call 185;go_must ((with_reducible refine HA.o.mono ?_);rintro e w1 ⟨rfl,hx1⟩))
 go_ret;exact⟨rfl,hx1⟩
theorem Zaw {p:Prop} (h:p:=by
 go_wp2_with fail
 refine Qad (fun W2 eW2=> ?_);have e0:=rL eW2 ⟨b,o+q,none⟩ (.int .i64 x);have e1:=rL eW2 ⟨b2,o2+q,none⟩ (.int .i64 y);have zW2_0:=zE eW2 b;have zW2_1:=zE eW2 b2;have hw2:=xE wr eW2;clear eW2;refine Qaa fol kR (fun hlater=> ?_);repeat(go_big_quiet_step ((fail)))
 refine wpQuiet_nil ?_;rintro w3 ⟨⟨w3x,hx3⟩,rfl⟩;clear hlater;go_wp2_with fail
 go_ret;exact⟨rb HC.o.symm,ext_trans HX.o (ext_trans hw2 hx3)⟩):p:=h
theorem Zas {p:Prop} (h:p:=by
 go_wp2_with fail
 refine Qad (fun W2 eW2=> ?_);have e0:=rL eW2 ⟨b,o+q,none⟩ (.int .i64 x);have e1:=rL eW2 ⟨b2,o2+q,none⟩ (.int .i64 y);have zW2_0:=zE eW2 b;have zW2_1:=zE eW2 b2;have hw2:=xE wr eW2;clear eW2;refine Qaa fol kR (fun hlater=> ?_);repeat(go_big_quiet_step ((fail)))
 refine wpQuiet_nil ?_;rintro w3 ⟨⟨w3x,hx3⟩,rfl⟩;clear hlater;go_wp2_with fail
 go_roundw
 case rel=>exact⟨q+1,oM,by go_num,HN,ext_trans HX.o (ext_trans hw2 hx3)⟩
 case measure=>simp[intOf];omega):p:=h
theorem Qtg {F G:Nat→Prop} {w:World} {v u:Value} {l m:List Int} (h:RSl Qe1 1 F w v l) (k:RSl Qe1 1 G w u m) (h5:l.length=5) (k5:m.length=5):
  Calls Tryz.prog 62 #[v,u] w fun e w'=>e= .returned (.bool (Qgh l m))∧Ext w w':=by
 have HL:=hH (fun(W:World) (hx:Ext w W)=>h.ext Qd6 hx);have HM:=hH (fun(W:World) (hx:Ext w W)=>k.ext Qd6 hx);obtain⟨a,n,c,rfl⟩:=h.slice;obtain⟨a2,n2,c2,rfl⟩:=k.slice;obtain rfl:n=5:=h.len.1.trans h5;obtain rfl:n2=5:=k.len.1.trans k5;clear h k;go_enter Tryz.func62,Tryz.ntmps62;go_wp2
 go_loopw [5] (fun i wr=>∃q:Nat,q≤5∧i= .int .i64 q∧Hid ((List.range q).all (fun i=>decide (atI m i≤atI l i))=true)∧Ext w wr) (fun i _=>5-(intOf i).toNat)
 case atStart=>exact⟨0,oM,rfl,hH sI,ext_refl _⟩
 case round=>
  obtain⟨q,hq,rfl,HI,hx⟩:=hrel;have HX:=hH hx;clear hx;by_cases hlt:q<5
  ·obtain⟨b,o,x,rfl,hb,e1,_,ca⟩:=Qdb (HL.o wr HX.o) hlt;obtain⟨b2,o2,y,rfl,hb2,e2,_,ca2⟩:=Qdb (HM.o wr HX.o) hlt;have hxx:=Qe2 e1;have hyy:=Qe2 e2;clear e1 e2;by_cases g:y≤x
   ·have t1:decide (x<y)=false:=decide_eq_false oM;have HN:=hH (show(List.range (q+1)).all (fun i=>decide (atI m i≤atI l i))=true by rw[Qw0,HI.o,←hxx,←hyy,decide_eq_true g];rfl);clear hxx hyy g;exact Zas
   ·have t1:decide (x<y)=true:=decide_eq_true oM;have HC:=hH (show Qgh l m=false from Q00 (k:=q) hlt (by rw[←hxx,←hyy,decide_eq_false g]));clear hxx hyy g;exact Zaw
  ·have hq5:q=5:=oM;have hi:=HI.o;rw[hq5] at hi;have HC:=hH (show Qgh l m=true from hi);clear hq5 hi HI;go_wp2
   go_ret;exact⟨rb HC.o.symm,HX.o⟩
def Vau (l:List Int) (w:World) (e:Ending) (w':World):Prop:=∃v,e= .returned v∧OSl Qe1 1 3 w.heap.size (fun _=>True) w' v l∧Ext w w'
theorem Q6w {base:Nat} {F:Nat→Prop} {w:World} {v:Value} {l:List Int} (h:OSl Qe1 1 3 base F w v l):RSl Qe1 1 (fun k=>base≤k) w v l:=
 Qaz Qd6 (Qf3 Qkx (G:=fun k=>base≤k) h) (fun k hk _=>hk) (fun k hk=>hk)
theorem Qhr {F:Nat→Prop} {w:World} {v:Value} {l:List Int} (h:RSl Qe1 1 F w v l) (hsz:l.length≤8000000000000):
  Calls Tryz.prog 109 #[v] w (Vau l w):=by
 obtain⟨a1,n1,c1,rfl⟩:=h.slice;obtain⟨rfl,k1,k1'⟩:=h.len;have hnil:=fun(W:World) (a:Option Addr) (n c:Nat)=>Lib.run_eql_slice_nil (P:=Tryz.prog) W 43 3 a n c 0 0 Tryz.underlying43
 obtain⟨i0,hi,hz0,hz1,hz2⟩:=info_parts Qni;cases a1 with
 |none=>
  have e0:l=[]:=by
   cases l with
   |nil=>rfl
   |cons a r=>obtain⟨b,o,x,cs,e,_⟩:=h.at_ (i:=0) sI;cases e
  subst e0;go_enter Tryz.func109,Tryz.ntmps109;go_wp2_with fail
  all_goals go_ret
  all_goals exact⟨_,rfl,Qbn,ext_refl _⟩
 |some ad=>
  have H:=hH (h.more Qd6 (G:=fun k=>k<w.heap.size) (fun _ _ hk=>hk));clear h k1 k1';go_enter Tryz.func109,Tryz.ntmps109;go_wp2_with (at_builtin;refine Qaj Qd6 rfl (.tmp 5) (.tmp 6) 43 rfl w.heap.size 3 i0 _ 1 8 Tryz.underlying43 hi hz0 hz1 hz2 rfl oM (F:=fun k=>k<w.heap.size) (G:=fun k=>k<w.heap.size) _ [] rfl Q3g _ l rfl (H.out.ext Qd6 (ext_alloc (ext_refl _) _)) Q3a (fun k hk _=>⟨hk,Qo1 hk⟩) (by simp only[maxLen,List.length_nil];omega) (by simp only[List.length_nil];omega) sI ?_;intro v1 w1 hown1 hg1 hat1)
  go_ret;exact⟨_,rfl,Qf3 Qkx hown1,Qao (ext_alloc (ext_refl _) _) hg1 (fun k hk=>Nat.le_of_eq (Qm1 hk))⟩
theorem Qm3 {F G:Nat→Prop} {w:World} {v u:Value} {l m:List Int} (h:RSl Qe1 1 F w v l) (k:RSl Qe1 1 G w u m):
  Calls Tryz.prog 57 #[v,u] w fun e w'=>e= .returned (.bool (decide (l=m)))∧Ext w w':=by
 have HL:=hH (fun(W:World) (hx:Ext w W)=>h.ext Qd6 hx);have HM:=hH (fun(W:World) (hx:Ext w W)=>k.ext Qd6 hx);obtain⟨a,n,c,rfl⟩:=h.slice;obtain⟨a2,n2,c2,rfl⟩:=k.slice;obtain⟨rfl,hn1,hn2⟩:=h.len;obtain⟨rfl,hn3,hn4⟩:=k.len;unfold maxLen at hn2 hn4;have q1:l.length≤9223372036854775807:=oM;have q2:m.length≤9223372036854775807:=oM;clear h k hn1 hn2 hn3 hn4;by_cases h0:l.length=m.length
 ·have t0:((l.length:Int) !=(m.length:Int))=false:=by rw[h0];simp
  have H0:=hH h0;clear h0;go_enter Tryz.func57,Tryz.ntmps57;go_wp2
  go_loopw [5] (fun i wr=>∃q:Nat,q≤l.length∧i= .int .i64 q∧Hid (l.take q=m.take q)∧Ext w wr) (fun i _=>l.length-(intOf i).toNat)
  case atStart=>exact⟨0,Nat.zero_le _,rfl,hH sI,ext_refl _⟩
  case round=>
   obtain⟨q,hq,rfl,HI,hx⟩:=hrel;have HX:=hH hx;clear hx;by_cases hlt:q<l.length
   ·have hlm:q<m.length:=by have:=H0.out;omega
    obtain⟨b,o,x,rfl,hb,e1,_,ca⟩:=Qdb (HL.o wr HX.o) hlt;obtain⟨b2,o2,y,rfl,hb2,e2,_,ca2⟩:=Qdb (HM.o wr HX.o) hlm;by_cases g:x=y
    ·have t1:(x !=y)=false:=by rw[g];simp
     have HN:=hH (show l.take (q+1)=m.take (q+1) by
      rw[List.take_succ_eq_append_getElem hlt,List.take_succ_eq_append_getElem hlm,HI.o];rw[List.getElem?_eq_getElem hlt] at e1;rw[List.getElem?_eq_getElem hlm] at e2;rw[Option.some.inj e1,Option.some.inj e2,g])
     clear e1 e2 g;exact Zas
    ·have t1:(x !=y)=true:=by simpa using g
     have HC:=hH (show decide (l=m)=false from decide_eq_false (fun e=>by
      subst e;rw[e1] at e2;exact g (Option.some.inj e2)))
     clear e1 e2 g;exact Zaw
   ·have HC:=hH (show decide (l=m)=true from decide_eq_true (by
     have h1:=HI.o;rw[List.take_of_length_le oM,List.take_of_length_le (by have:=H0.out;omega)] at h1;exact h1))
    go_wp2
    go_ret;exact⟨rb HC.o.symm,HX.o⟩
 ·have t0:((l.length:Int) !=(m.length:Int))=true:=by rw[bne_iff_ne];omega
  have HC:=hH (show decide (l=m)=false from decide_eq_false (fun e=>h0 (by rw[e])));clear h0;go_enter Tryz.func57,Tryz.ntmps57;go_wp2
  go_ret;exact⟨rb HC.o.symm,ext_refl _⟩
def Qb5 (l:List Int) (n:No):Bool:=Qgh l n.needs && (atI l n.site.toNat==n.number-1)
theorem Qh9 {n:No} (h:Qa0 n=0):inB n.site 0 4=true∧inB n.number 1 500=true∧n.needs.length=5:=by
 cases g1:inB n.site 0 4 with
 |false=>rw[Qhq g1] at h;omega
 |true=>
  cases g2:inB n.number 1 500 with
  |false=>rw[Qff g2] at h;omega
  |true=>
   refine⟨rfl,rfl,?_⟩;by_cases g3:n.needs.length=5
   ·exact g3
   ·rw[Qi1 g1 g2 g3] at h;omega
theorem Qul {l:List Int} {n:No} (h:Qgh l n.needs=false):Qb5 l n=false:=by unfold Qb5;rw[h];rfl
theorem Qq5 {l:List Int} {n:No} (h:Qgh l n.needs=true):Qb5 l n=(atI l n.site.toNat==n.number-1):=by unfold Qb5;rw[h];rfl
theorem Qxr {F G:Nat→Prop} {w:World} {v:Value} {cs:List Value} {l:List Int} {n:No} (h:RSl Qe1 1 F w v l) (k:RNo G w cs n) (h5:Qbx l=0) (k5:Qa0 n=0):
  Calls Tryz.prog 144 #[v,.agg cs.toArray] w fun e w'=>e= .returned (.bool (Qb5 l n))∧Ext w w':=by
 have hl5:=(Qhp h5).1;obtain⟨g1,g2,g3⟩:=Qh9 k5;obtain⟨a,nl,c,rfl⟩:=h.slice;obtain⟨v1,u1,rfl,hs,hk,hl,hq⟩:=k;obtain⟨st,nb,ne,dd⟩:=n;simp only at hs hk hl hq g1 g2 g3;have HLE:=hH (fun(W:World) (hx:Ext w W)=>Qzd (h.ext Qd6 hx) (hl.ext Qd6 hx) hl5 g3);obtain⟨a2,n2,c2,rfl⟩:=hl.slice;obtain⟨a3,n3,c3,rfl⟩:=hq.slice;obtain rfl:nl=5:=h.len.1.trans hl5;obtain⟨j,rfl,hj⟩:=Qnu g1;obtain⟨b1,b2⟩:=Qsi g2;obtain⟨b,o,x,rfl,hb,e1,_,ca⟩:=Qdb h hj;have hn1:¬b=w.heap.size:=oM;have hn2:¬w.heap.size=b:=oM;have hat:=Qe2 e1;clear h hs hk hl hq h5 k5 hl5 g1 g2 g3 e1;cases g:Qgh l ne with
 |false=>
  rw[Qul g];rw[g] at HLE;clear hat;go_enter Tryz.func144,Tryz.ntmps144;go_wp2_with fail
  refine Qad (fun W2 eW2=> ?_);obtain⟨e0,e1,e2,e3⟩:=rR4 eW2 w.heap.size (.int .i64 (j:Nat)) (.int .i64 nb) (.slice a2 n2 c2) (.slice a3 n3 c3);have e4:=rL eW2 ⟨b,o+j,none⟩ (.int .i64 x);have zW2_0:=zE eW2 w.heap.size;have zW2_1:=zE eW2 b;have hw2:=xE w eW2;clear eW2;refine Qaa fol kR (fun hlater=> ?_);repeat(go_big_quiet_step ((first
    |(go_at_call 134;(with_reducible exact Qah (HLE.o _ (ext_trans hw2 (Later.ext _))))))))
  refine wpQuiet_nil ?_;rintro w3 ⟨⟨w3x,hx3⟩,rfl⟩;clear hlater;go_wp2_with fail
  go_ret;exact⟨rfl,ext_trans hw2 hx3⟩
 |true=>
  have HA:=hH (show Qb5 l ⟨(j:Nat),nb,ne,dd⟩=(x==nb-1) by rw[Qq5 g,hat];rfl);rw[g] at HLE;clear hat g;go_enter Tryz.func144,Tryz.ntmps144;go_wp2_with fail
  refine Qad (fun W2 eW2=> ?_);obtain⟨e0,e1,e2,e3⟩:=rR4 eW2 w.heap.size (.int .i64 (j:Nat)) (.int .i64 nb) (.slice a2 n2 c2) (.slice a3 n3 c3);have e4:=rL eW2 ⟨b,o+j,none⟩ (.int .i64 x);have zW2_0:=zE eW2 w.heap.size;have zW2_1:=zE eW2 b;have hw2:=xE w eW2;clear eW2;refine Qaa fol kR (fun hlater=> ?_);repeat(go_big_quiet_step ((first
    |(go_at_call 134;(with_reducible exact Qah (HLE.o _ (ext_trans hw2 (Later.ext _))))))))
  refine wpQuiet_nil ?_;rintro w3 ⟨⟨w3x,hx3⟩,rfl⟩;clear hlater;go_wp2_with fail
  go_ret;exact⟨rb HA.o.symm,ext_trans hw2 hx3⟩
theorem Qv9 {F G:Nat→Prop} {w:World} {v:Value} {cs:List Value} {l:List Int} {n:No} (h:RSl Qe1 1 F w v l) (k:RNo G w cs n) (h5:Qbx l=0) (k5:Qa0 n=0):
  Calls Tryz.prog 82 #[v,.agg cs.toArray] w fun e w'=>e= .returned (.bool (Qb5 l n))∧Ext w w':=by
 have hl5:=(Qhp h5).1;obtain⟨g1,g2,g3⟩:=Qh9 k5;obtain⟨a,nl,c,rfl⟩:=h.slice;obtain⟨v1,u1,rfl,hs,hk,hl,hq⟩:=k;obtain⟨st,nb,ne,dd⟩:=n;simp only at hs hk hl hq g1 g2 g3;have HLE:=hH (fun(W:World) (hx:Ext w W)=>Qtg (h.ext Qd6 hx) (hl.ext Qd6 hx) hl5 g3);obtain⟨a2,n2,c2,rfl⟩:=hl.slice;obtain⟨a3,n3,c3,rfl⟩:=hq.slice;obtain rfl:nl=5:=h.len.1.trans hl5;obtain⟨j,rfl,hj⟩:=Qnu g1;obtain⟨b1,b2⟩:=Qsi g2;obtain⟨b,o,x,rfl,hb,e1,_,ca⟩:=Qdb h hj;have hn1:¬b=w.heap.size:=oM;have hn2:¬w.heap.size=b:=oM;have hat:=Qe2 e1;clear h hs hk hl hq h5 k5 hl5 g1 g2 g3 e1;cases g:Qgh l ne with
 |false=>
  rw[Qul g];rw[g] at HLE;clear hat;go_enter Tryz.func82,Tryz.ntmps82;go_wp2_with fail
  refine Qad (fun W2 eW2=> ?_);obtain⟨e0,e1,e2,e3⟩:=rR4 eW2 w.heap.size (.int .i64 (j:Nat)) (.int .i64 nb) (.slice a2 n2 c2) (.slice a3 n3 c3);have e4:=rL eW2 ⟨b,o+j,none⟩ (.int .i64 x);have zW2_0:=zE eW2 w.heap.size;have zW2_1:=zE eW2 b;have hw2:=xE w eW2;clear eW2;refine Qaa fol kR (fun hlater=> ?_);repeat(go_big_quiet_step ((first
    |(go_at_call 62;(with_reducible exact Qah (HLE.o _ (ext_trans hw2 (Later.ext _))))))))
  refine wpQuiet_nil ?_;rintro w3 ⟨⟨w3x,hx3⟩,rfl⟩;clear hlater;go_wp2_with fail
  go_ret;exact⟨rfl,ext_trans hw2 hx3⟩
 |true=>
  have HA:=hH (show Qb5 l ⟨(j:Nat),nb,ne,dd⟩=(x==nb-1) by rw[Qq5 g,hat];rfl);rw[g] at HLE;clear hat g;go_enter Tryz.func82,Tryz.ntmps82;go_wp2_with fail
  refine Qad (fun W2 eW2=> ?_);obtain⟨e0,e1,e2,e3⟩:=rR4 eW2 w.heap.size (.int .i64 (j:Nat)) (.int .i64 nb) (.slice a2 n2 c2) (.slice a3 n3 c3);have e4:=rL eW2 ⟨b,o+j,none⟩ (.int .i64 x);have zW2_0:=zE eW2 w.heap.size;have zW2_1:=zE eW2 b;have hw2:=xE w eW2;clear eW2;refine Qaa fol kR (fun hlater=> ?_);repeat(go_big_quiet_step ((first
    |(go_at_call 62;(with_reducible exact Qah (HLE.o _ (ext_trans hw2 (Later.ext _))))))))
  refine wpQuiet_nil ?_;rintro w3 ⟨⟨w3x,hx3⟩,rfl⟩;clear hlater;go_wp2_with fail
  go_ret;exact⟨rb HA.o.symm,ext_trans hw2 hx3⟩
end Go.Proofs.YtgnccjojfebkeaaGreat
namespace Go.Proofs.YtgnccjojfebkeaaGreat
open Go Cp
end Go.Proofs.YtgnccjojfebkeaaGreat
namespace Go.Proofs.YtgnccjojfebkeaaGreat
open Go Go.RowKit Cp
def Q0p (F:Nat→Prop) (g:Gap) (w:World) (e:Ending) (w':World):Prop:=∃v,e= .returned (.agg #[v,.int .i64 g.least,.int .i64 g.most])∧RSl Qdt 2 (fun k=>F k∨w.heap.size≤k) w' v g.path∧Ext w w'
theorem Qsr {α:Type} {R:Rd α} {sz F w a n c} {l:List α} (h:RSl R sz F w (.slice a n c) l) {k:Nat} (hk:k≤l.length):RSl R sz F w (.slice a k c) (l.take k):=by
 obtain⟨a',cap',e,h1,h2,h3⟩:=h;injection e with e1 e2 e3
 subst e1;subst e2;subst e3;have hkl:(l.take k).length=k:=by rw[List.length_take];omega
 refine⟨_,_,by rw[hkl],oM,h2,fun hne=> ?_⟩;obtain⟨b,o,e2,hF,hl,hx⟩:=h3 (by rintro rfl;simp at hne);refine⟨b,o,e2,hF,hl,fun i x hi=>hx i x ?_⟩;by_cases hik:i<k
 ·rwa [List.getElem?_take_of_lt hik] at hi
 ·rw[List.getElem?_eq_none oM] at hi;cases hi
theorem RSl.anyF {sz w v B} {F:Nat→Prop} {l:List Stp} (h:RSl Qdt sz F w v l):RSl Qdt sz (fun k=>(F k∧k<w.heap.size)∨B≤k) w v l:=h.more Qap (fun _ hk hl=> .inl ⟨hk,hl⟩)
theorem Qyi {l:List Stp} {k:Nat} {x y:Int} (h:l[k]?=some (x,y)):Qbo (l.take k) (l.drop k)=if x<200 then⟨l.take k,x+1,200⟩ else Qbo (l.take (k+1)) (l.drop (k+1)):=by
 obtain⟨a1,b1⟩:=List.getElem?_eq_some_iff.1 h;rw[List.drop_eq_getElem_cons a1,List.take_succ_eq_append_getElem a1,b1];rfl
theorem Q0x {l:List Stp} {k:Nat} (h:k=l.length):Qbo (l.take k) (l.drop k)=⟨l,1,200⟩:=by
 subst h;rw[List.drop_eq_nil_of_le (Nat.le_refl _),List.take_of_length_le (Nat.le_refl _)];rfl
theorem Qyl {l:List Stp} {k:Nat} {x y site:Int} (h:l[k]?=some (x,y)):Qcg site (l.take k) (l.drop k)=if 1<x then⟨l.take k,1,x-1⟩ else if x=1 then⟨l.take k++[(0,site)],1,200⟩ else Qcg site (l.take (k+1)) (l.drop (k+1)):=by
 obtain⟨a1,b1⟩:=List.getElem?_eq_some_iff.1 h;rw[List.drop_eq_getElem_cons a1,List.take_succ_eq_append_getElem a1,b1];rfl
theorem Zba {p:Prop} (h:p:=by
 exact Qsr ((RSl.anyF HL.o).ext Qap (by repeat(first|(with_reducible exact ext_refl _)|(with_reducible refine ext_drew ?_)|(with_reducible refine ext_drewN ?_ _)|(with_reducible refine ext_alloc ?_ _)|(with_reducible refine ext_set ?_ ltA _)|(with_reducible refine Qan ?_ HW.o)))) oM):p:=h
theorem Q0w {F:Nat→Prop} {w:World} {v:Value} {l:List Stp} {k0:Nat} (h:RSl Qdt 2 F w v l) (hk0:k0≤l.length) (hok:∀s∈l,0≤s.1∧s.1≤200):
  Calls Tryz.prog 252 #[v,.int .i64 k0] w (Q0p (fun k=>F k∧k<w.heap.size) (Qbo (l.take k0) (l.drop k0)) w):=by
 obtain⟨a1,n1,c1,rfl⟩:=h.slice;obtain⟨rfl,k1,k1'⟩:=h.len;unfold maxLen at k1';have q1:l.length≤9223372036854775807:=oM;have q2:c1≤9223372036854775807:=oM;have q3:k0≤9223372036854775807:=oM;clear k1';have HL:=hH h;have HOK:=hH hok;clear h hok;go_enter Tryz.func252,Tryz.ntmps252;go_wp2
 go_loopw [5] (fun i wr=>∃k:Nat,k≤l.length∧i= .int .i64 k∧Hid (Qbo (l.take k0) (l.drop k0)=Qbo (l.take k) (l.drop k))∧Ext (w.alloc (.cells #[.slice none 0 0,.int .i64 0,.int .i64 0] 280)) wr) (fun i _=>l.length-(intOf i).toNat)
 case atStart=>exact⟨k0,oM,rfl,hH rfl,ext_refl _⟩
 case round=>
  obtain⟨k,hk1,rfl,ho,hx⟩:=hrel;have HW:=hH (ext_trans (ext_alloc (ext_refl _) _) hx);obtain⟨r0,r1,r2⟩:=cC3 hx w.heap.size (.slice none 0 0) (.int .i64 0) (.int .i64 0);have f0:=fL hx w.heap.size 0;have f1:=fL hx w.heap.size 1;have f2:=fL hx w.heap.size 2;have HX:=hH hx;clear hx;by_cases h1:k<l.length
  ·obtain⟨b1,o1,x1,y1,rfl,hb1,e1,_,_,ca,cb⟩:=Qfb (RSl.ext Qap HL.o HW.o) h1;have HA:=hH (Qyi e1);obtain⟨d1,d2⟩:=HOK.o _ (List.mem_of_getElem? e1);simp only at d1 d2;clear e1 hb1;have kc:k≤c1:=oM;by_cases h2:x1<200
   ·have HG:=hH (show Qbo (l.take k0) (l.drop k0)=⟨l.take k,x1+1,200⟩ by rw[ho.out,HA.o,if_pos h2]);have hwr:IntKind.i64.wrap (x1+1)=x1+1:=IntWalk.i64_in _ oM;go_wp2
    refine Qhb 10 fol kR ?_;simp only[List.take_succ_cons,List.take_zero,List.drop_succ_cons,List.drop_zero];repeat still_step
    refine wpStill_nil ?_;go_wp2
    refine bodyPost_ret (v:= .agg #[.slice (some ⟨b1,o1,none⟩) k c1,.int .i64 (x1+1),.int .i64 200]) (by simp[results,Tryz.results252,go_sem,r0,r1,r2]) rfl ⟨.slice (some ⟨b1,o1,none⟩) k c1,by rw[HG.o],?_,(by repeat(first|(with_reducible exact ext_refl _)|(with_reducible refine ext_drew ?_)|(with_reducible refine ext_drewN ?_ _)|(with_reducible refine ext_alloc ?_ _)|(with_reducible refine ext_set ?_ ltA _)|(with_reducible refine Qan ?_ HW.o)))⟩;rw[HG.o];exact Zba
   ·have HG:=hH (show Qbo (l.take k0) (l.drop k0)=Qbo (l.take (k+1)) (l.drop (k+1)) by rw[ho.out,HA.o,if_neg h2]);go_wp2
    go_roundw
    case rel=>exact⟨k+1,oM,by go_num,HG,HX.o⟩
    case measure=>simp[intOf];omega
  ·have HG:=hH (ho.out.trans (Q0x oM));go_wp2
   refine bodyPost_ret (v:= .agg #[.slice a1 l.length c1,.int .i64 1,.int .i64 200]) (by simp[results,Tryz.results252,go_sem,r0,r1,r2]) rfl ⟨.slice a1 l.length c1,by rw[HG.o],?_,(by repeat(first|(with_reducible exact ext_refl _)|(with_reducible refine ext_drew ?_)|(with_reducible refine ext_drewN ?_ _)|(with_reducible refine ext_alloc ?_ _)|(with_reducible refine ext_set ?_ ltA _)|(with_reducible refine Qan ?_ HW.o)))⟩;rw[HG.o];exact(RSl.anyF HL.o).ext Qap (by repeat(first|(with_reducible exact ext_refl _)|(with_reducible refine ext_drew ?_)|(with_reducible refine ext_drewN ?_ _)|(with_reducible refine ext_alloc ?_ _)|(with_reducible refine ext_set ?_ ltA _)|(with_reducible refine Qan ?_ HW.o)))
end Go.Proofs.YtgnccjojfebkeaaGreat
