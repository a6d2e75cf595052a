/- The same runs; does an atom go on a run. -/
import Derived.Test.YtgnccjojfebkeaaGreatQ453a98ae2d
import Derived.Test.YtgnccjojfebkeaaGreatQa70fadfe36
import Derived.Test.YtgnccjojfebkeaaGreatQ463d8804a1
import Derived.Test.YtgnccjojfebkeaaGreatQ3471126dda
import Derived.Test.YtgnccjojfebkeaaGreatQb497ca1fba
import Derived.Deep.RegionHeld3
import Derived.Deep.RegionLaw
set_option linter.unusedVariables false
set_option linter.unusedSimpArgs false
set_option maxRecDepth 100000
set_option maxHeartbeats 4000000
namespace Go.Proofs.YtgnccjojfebkeaaGreat
open Go Go.RowKit Go.BigFrame Cp
theorem Qya {F:Nat→Prop} {w:World} {a:Option Addr} {n cap:Nat} {q:List Rn} (h:RSl RRn 3 F w (.slice a n cap) q) {i:Nat} (hi:i<n):
  ∃b o p c s ap cp,a=some ⟨b,o,none⟩∧b<w.heap.size∧q[i]?=some ((p,c),(s:ByteArray).data.toList)∧s.size≤140737488351232∧I64 c∧RSl Qdt 2 F w (.slice ap p.length cp) p∧
   w.cell? ⟨b,o+i * 3,none⟩=some (.slice ap p.length cp)∧w.cell? ⟨b,o+i * 3+1,none⟩=some (.int .i64 c)∧w.cell? ⟨b,o+i * 3+2,none⟩=some (.string s):=by
 obtain⟨b,o,x,cs,e1,e2,e3,_,e4,v,u,rfl,h1,h2,h3⟩:=h.at_ hi;obtain⟨ap,np,cp,rfl⟩:=h1.slice;obtain⟨rfl,_,_⟩:=h1.len;obtain⟨⟨p,c⟩,t⟩:=x;obtain⟨s,rfl,rfl,hs⟩:=Qby h3;exact⟨b,o,p,c,s,ap,cp,e1,e2,e3,hs,h2,h1,by simpa using e4 0 _ rfl,by simpa [Nat.add_assoc] using e4 1 _ rfl,by simpa [Nat.add_assoc] using e4 2 _ rfl⟩
theorem Qss {s:ByteArray} (h:s.size≤140737488351232):RTx (.string s) s.data.toList:=⟨by congr,by simpa using h⟩
theorem Qrq {s t:ByteArray} (h:s.data.toList=t.data.toList):s=t:=by
 cases s;cases t
 congr
 exact Array.ext' h
theorem Qpi {F G:Nat→Prop} {w:World} {cs ds:List Value} {r:Rn} (h:RRn F w cs r) (k:RRn G w ds r):
  Calls Tryz.prog 180 #[.agg cs.toArray,.agg ds.toArray] w fun e w'=>e= .returned (.bool true)∧Ext w w':=by
 obtain⟨v,x,rfl,hl,hi,hx⟩:=h;obtain⟨u,y,rfl,hm,hj,hy⟩:=k;obtain⟨⟨l,c⟩,t⟩:=r;simp only at hl hi hx hm hj hy ⊢;obtain⟨s,rfl,rfl,hs⟩:=Qby hx;obtain⟨s2,rfl,e2,hs2⟩:=Qby hy;obtain rfl:=Qrq e2;have HS:=hH (fun(W:World) (hx:Ext w W)=>Qll (Qam (hl.ext Qap hx) hi) (Qam (hm.ext Qap hx) hj));obtain⟨a1,n1,c1,rfl⟩:=hl.slice;obtain⟨a2,n2,c2,rfl⟩:=hm.slice;clear hl hi hx hm hj hy e2;go_enter Tryz.func180,Tryz.ntmps180;go_wp2_with (go_at_call 135;go_must ((with_reducible refine(HS.o _ Qac).mono ?_);rintro e w1 ⟨rfl,hx1⟩))
 go_ret;exact⟨rfl,Qac⟩
theorem Quu {F G:Nat→Prop} {w:World} {v u:Value} {l:List Rn} (h:RSl RRn 3 F w v l) (k:RSl RRn 3 G w u l):
  Calls Tryz.prog 119 #[v,u] w fun e w'=>e= .returned (.bool true)∧Ext w w':=by
 have HL:=hH (fun(W:World) (hx:Ext w W)=>h.ext gRn hx);have HM:=hH (fun(W:World) (hx:Ext w W)=>k.ext gRn hx);obtain⟨a,n,c,rfl⟩:=h.slice;obtain⟨a2,n2,c2,rfl⟩:=k.slice;obtain⟨rfl,hn1,hn2⟩:=h.len;obtain⟨rfl,_,_⟩:=k.len;unfold maxLen at hn2;have q1:l.length≤9223372036854775807:=oM;clear h k hn1 hn2;go_enter Tryz.func119,Tryz.ntmps119;go_wp2
 go_loopw [5] (fun i wr=>∃q:Nat,q≤l.length∧i= .int .i64 q∧Ext w wr) (fun i _=>l.length-(intOf i).toNat)
 case atStart=>exact⟨0,Nat.zero_le _,rfl,ext_refl _⟩
 case round=>
  obtain⟨q,hq,rfl,hx⟩:=hrel;have HX:=hH hx;clear hx;by_cases hlt:q<l.length
  ·obtain⟨b,o,p,d,s,ap,cp,rfl,hb,e1,hs,i1,hp1,y0,y1,y2⟩:=Qya (HL.o wr HX.o) hlt;obtain⟨b2,o2,p2,d2,s2,ap2,cp2,rfl,hb2,e2,hs2,i2,hp2,z0,z1,z2⟩:=Qya (HM.o wr HX.o) hlt;obtain⟨⟨rfl,rfl⟩,rfl⟩:(p=p2∧d=d2)∧s=s2:=by
    rw[e1] at e2;injection e2 with e2
    injection e2 with e3 e4
    injection e3 with e5 e6
    exact⟨⟨e5,e6⟩,Qrq e4⟩
   have HSM:=hH (fun(W:World) (hx:Ext wr W)=>Qpi (Qh0 (hp1.ext Qap hx) i1 (Qss hs)) (Qh0 (hp2.ext Qap hx) i2 (Qss hs)));clear e1 e2 hp1 hp2 i1 i2;go_wp2_with fail
   refine Qad (fun W2 eW2=> ?_);have e0:=rL eW2 ⟨b,o+q * 3,none⟩ (.slice ap p.length cp);have e1:=rL eW2 ⟨b,o+q * 3+1,none⟩ (.int .i64 d);have e2:=rL eW2 ⟨b,o+q * 3+2,none⟩ (.string s);have e3:=rL eW2 ⟨b2,o2+q * 3,none⟩ (.slice ap2 p.length cp2);have e4:=rL eW2 ⟨b2,o2+q * 3+1,none⟩ (.int .i64 d);have e5:=rL eW2 ⟨b2,o2+q * 3+2,none⟩ (.string s);have zW2_0:=zE eW2 b;have zW2_1:=zE eW2 b2;have hw2:=xE wr eW2;clear eW2;refine Qaa fol kR (fun hlater=> ?_);repeat(go_big_quiet_step ((first
     |(go_at_call 180;(with_reducible exact Qah (HSM.o _ (ext_trans hw2 (Later.ext _))))))))
   refine wpQuiet_nil ?_;exact Zal
  ·go_wp2
   go_ret;exact⟨rfl,HX.o⟩
theorem Qks:(Tryz.prog.info? 129).map (fun i=>(i.zero,i.size,i.bytes))=some (some (.agg #[.slice none 0 0,.int .i64 0,.int .u8 0]),3,40):=kR
theorem Qb1 {r:Rn} (h:Qbd r=0):Qaf r.1=0∧r.2≠[]∧r.2.length≤60∧Qbj r.2=true∧(Qb9 r.1 (r.2.length-1)).2=0:=by
 unfold Qbd at h;by_cases h1:Qaf r.1≠0
 ·rw[if_pos h1] at h;exact absurd h h1
 rw[if_neg h1] at h;by_cases h2:r.2=[]
 ·rw[if_pos h2] at h;omega
 rw[if_neg h2] at h;by_cases h3:60<r.2.length
 ·rw[if_pos h3] at h;omega
 rw[if_neg h3] at h;by_cases h4:Qbj r.2=false
 ·rw[if_pos h4] at h;omega
 rw[if_neg h4] at h;exact⟨oM,h2,oM,by simpa using h4,h⟩
theorem Q08 {F:Nat→Prop} {W:World} {r:Nat} {v:Value} {p:List Stp} {c:Int} {s:UInt8} (h:RSl Qdt 2 F W v p) (i:I64 c) (z0:W.cell? ⟨r,0,none⟩=some v) (z1:W.cell? ⟨r,1,none⟩=some (.int .i64 c)) (z2:W.cell? ⟨r,2,none⟩=some (.int .u8 s.toNat))
  (hF:F r) (hr:r<W.heap.size):RSl RAt 3 F W (.slice (some ⟨r,0,none⟩) 1 1) [((p,c),s)]:=
 Qbe (Qfi z0 z1 z2) (Qbg (x:=((p,c),s)) rfl ⟨_,rfl,h,i⟩) hF hr (Nat.le_refl _) mO
theorem Qjb {F:Nat→Prop} {w:World} {v:Value} {c:Int} {m:Mk} (h:RMk F w [v,.int .i64 c] m):RSl Qdt 2 F w v m.1:=by
 obtain⟨v',e,h1,_⟩:=h;injection e with e1 e2
 subst e1;exact h1
theorem Qpe {α:Type} (f:Nat→α) (k:Nat):(List.range (k+1)).map f=(List.range k).map f++[f k]:=by rw[List.range_succ,List.map_append];rfl
theorem Qn3 {s:ByteArray} {k:Nat} (h:k<s.size):s.data.toList.getD k 0=s[k]:=by
 rw[List.getD_eq_getElem?_getD,List.getElem?_eq_getElem (by simpa using h)];rfl
theorem Qpd {α:Type} (f:Nat→α) (k:Nat):((List.range k).map f).length=k:=sI
theorem Qvj {F:Nat→Prop} {w:World} {cs:List Value} {r:Rn} (h:RRn F w cs r) (hr:Qbd r=0):
  Calls Tryz.prog 118 #[.agg cs.toArray] w (Qvb (Qav r) w):=by
 obtain⟨hc1,hc2,hc3,_,_⟩:=Qb1 hr;obtain⟨v,u,rfl,hl,hi,hu⟩:=h;obtain⟨⟨l,c⟩,t⟩:=r;simp only at hl hi hu hc1 hc2 hc3;obtain⟨s,rfl,rfl,hs⟩:=Qby hu;have hs60:s.size≤60:=by simpa using hc3
 have HAF:=hH (fun(k:Nat) (hk:k<s.size) (W:World) (hx:Ext w W)=>Qfp (k:=(k:Int)) (Qam (hl.ext Qap hx) hi) (Qcn hc1) (Qew hc1) (Qc6 hc1) (Qbu hc1) ⟨oM,oM⟩);have HIC:=hH (Qbu hc1);obtain⟨a1,n1,c1,rfl⟩:=hl.slice;obtain⟨i0,hi0,hz0,hz1,hz2⟩:=info_parts Qks;have HJ:=hH hi0;have HZ0:=hH hz0;have HZ1:=hH hz1;have HZ2:=hH hz2;obtain⟨f,hf⟩:∃f:Nat→At,f=fun(i:Nat)=>(Qar (l,c) (i:Int),s.data.toList.getD i 0):=⟨_,rfl⟩
 have hat:Qav ((l,c),s.data.toList)=(List.range s.size).map f:=by
  unfold Qav;rw[hf];have:s.data.toList.length=s.size:=sI;simp only[this]
 rw[hat];have HF:=hH (fun(k:Nat) (hk:k<s.size)=>(show f k=(Qar (l,c) (k:Int),s[k]) by rw[hf];simp only[Qn3 hk]));clear hi0 hz0 hz1 hz2 hl hi hu hr hc1 hc2 hc3 hat hf;go_enter Tryz.func118,Tryz.ntmps118;go_wp2
 refine Qad (fun wb ewb=> ?_);obtain⟨b0,b1,b2⟩:=rR3 ewb w.heap.size (.slice a1 n1 c1) (.int .i64 c) (.string s);have hbb:=zE ewb w.heap.size;have hwb:=xE w ewb;clear ewb;have HWB:=hH hwb;go_loopw [3,4] (fun ov iv wr=>∃k:Nat,k≤s.size∧iv= .int .i64 k∧Hid (OSl RAt 3 129 wb.heap.size (fun j=>wb.heap.size≤j) wr ov ((List.range k).map f))∧Ext wb wr) (fun _ iv _=>s.size-(intOf iv).toNat)
 case atStart=>exact⟨0,Nat.zero_le _,rfl,hH Qbn,ext_refl _⟩
 case round=>
  obtain⟨k,hk,rfl,HO,hx⟩:=hrel;obtain⟨z0,z1,z2⟩:=tT3 hx hbb b0 b1 b2;have hzr:=hx.size;have hbr:w.heap.size<wr.heap.size:=oM;have HX:=hH hx;have HXW:=hH (ext_trans HWB.o hx);clear hx;obtain⟨a5,n5,c5,rfl⟩:=Qab HO.o;obtain rfl:n5=k:=by have:=(Qa2 HO.o).1;rwa [Qpd] at this
  by_cases hlt:n5<s.size
  ·have HAK:=hH (HAF.o n5 hlt);have HFK:=hH (HF.o n5 hlt);have HOL:=hH (Qak HO.o);go_wp2_with fail
   go_region_held3 (fun W=>W.cell? ⟨w.heap.size,0,none⟩=some (.slice a1 n1 c1)∧W.cell? ⟨w.heap.size,1,none⟩=some (.int .i64 c)∧W.cell? ⟨w.heap.size,2,none⟩=some (.string s))
    (first|go_keep|(refine⟨?_,?_,?_⟩<;>(rw[hx9.cells _ _ ltA];first|(with_reducible assumption)|go_simp))|(refine⟨?_,?_,?_⟩<;>(rw[hx2.cells _ _ ltA];first|(with_reducible assumption)|go_simp)))
    (first
     |(go_at_call 179;go_must ((with_reducible refine(HAK.o _ (ext_trans HXW.o Qac)).mono ?_);rintro e w2 ⟨cs2,rfl,hm2,hx2⟩;have HM2:=hH (Qem hm2);obtain⟨v2,rfl,hv2,hi2⟩:=hm2;obtain⟨a3,n3,c3,rfl⟩:=Qab hv2;have HI2:=hH hi2;have hz2:=hx2.size;(try simp at hz2);have hb2:=zL hx2 w.heap.size;clear hv2 hi2))
     |((refine Qa7 gAt rfl (.tmp 12) (.tmp 22) 39 rfl wb.heap.size 129 i0 _ 3 40 Tryz.underlying39 HJ.o HZ0.o HZ1.o HZ2.o rfl oM (F:=fun j=>wb.heap.size≤j) (G:=fun j=>wr.heap.size≤j) (.slice a5 n5 c5) ((List.range n5).map f) rfl (Qai gAt HO.o Qac) (.slice (some ⟨w2.heap.size,0,none⟩) 1 1) [f n5] rfl (by rw[HFK.o];exact Q08 (RSl.more Qap (fun j hj _=>(show wr.heap.size≤j by first|omega|(simp at hj;omega))) ((Qjb HM2.o).ext Qap Qac)) HI2.o asG (by first|assumption|(go_simp<;>rfl)) asG ltA ltA) Qe7 (fun j hj _=>⟨(show wb.heap.size≤j by omega),fun e=>by have:=HOL.o j e.symm;omega⟩) (by simp only[Qpd,maxLen,List.length_cons,List.length_nil];omega) (by simp only[Qpd,List.length_cons,List.length_nil];omega) ltA ?_);intro v9 w9 hown9 hg9 hat9;have hx9:Ext wb w9:=Qao (ext_trans HX.o Qac) hg9 (fun j hj=>(HOL.o j hj).1)))
   all_goals
    have HN:=hH (show OSl RAt 3 129 wb.heap.size (fun j=>wb.heap.size≤j) w9 v9 ((List.range (n5+1)).map f) by rw[Qpe];exact hown9);clear hown9 hg9 hat9;go_wp2_with fail
    go_roundw
    case rel=>exact⟨n5+1,oM,by go_num,HN,hx9⟩
    case measure=>simp[intOf];omega
  ·have hks:n5=s.size:=oM;subst hks;have HFI:=hH (Qaz gAt HO.o (G:=fun j=>w.heap.size≤j) (fun j hj _=>(show w.heap.size≤j by omega)) (fun j hj=>(show w.heap.size≤j by omega)));go_wp2
   go_ret;exact⟨_,rfl,HFI.o,HXW.o⟩
end Go.Proofs.YtgnccjojfebkeaaGreat
namespace Go.Proofs.YtgnccjojfebkeaaGreat
open Go Go.RowKit Cp
def Qnw (s:St):Prop:=Qec s.1∧Qca s.2∧(∀m∈s.2,Qaf m=0)∧∀m∈s.2,Qel s.1 m=false
def Qpy (s:St):Prop:=Qnw s∧s.1.length≤300∧s.2.length≤600
theorem hasM_iff {l:List At} {m:Mk}:Qel l m=true↔∃a∈l,a.1=m:=by
 unfold Qel;rw[List.any_eq_true];constructor
 ·rintro⟨a,ha,h⟩;exact⟨a,ha,ordM_zero.1 (by simpa using h)⟩
 ·rintro⟨a,ha,h⟩;exact⟨a,ha,by simpa using ordM_zero.2 h⟩
theorem hasG_iff {l:List Mk} {m:Mk}:Qc5 l m=true↔m∈l:=by
 unfold Qc5;rw[List.any_eq_true];constructor
 ·rintro⟨a,ha,h⟩;have:a=m:=ordM_zero.1 (by simpa using h);exact this▸ha
 ·intro h;exact⟨m,h,by simpa using ordM_zero.2 rfl⟩
theorem Qy9 {l:List At} {m:Mk}:Qel l m=false↔∀a∈l,a.1≠m:=by
 rw[←Bool.not_eq_true,hasM_iff];exact⟨fun h a ha e=>h ⟨a,ha,e⟩,fun h ⟨a,ha,e⟩=>h a ha e⟩
theorem Qkg:∀{l:List Mk} {ats:List At} {p:Option Mk},Qc1 ats p l=0↔(Qca (match p with|none=>l|some q=>q::l)∨(l=[]∧True))∧(∀m∈l,Qaf m=0)∧∀m∈l,Qel ats m=false
 | [],ats,p=>by simp[Qc1]
 |m::l,ats,p=>by
  unfold Qc1;by_cases h1:Qaf m=0
  ·rw[if_neg (by simpa using h1)];have ih:= @Qkg l ats (some m);simp only at ih;cases p with
   |none=>
    cases hm:Qel ats m with
    |true=>simp[hm]
    |false=>
     simp only[hm,Bool.false_eq_true,or_false,false_or,if_false,reduceCtorEq,and_true];rw[ih];simp only[List.mem_cons,forall_eq_or_imp,h1,hm,true_and,and_true,reduceCtorEq,false_and,or_false];constructor
     ·rintro⟨h,h2,h3⟩;rcases h with h|rfl
      ·exact⟨h,h2,h3⟩
      ·exact⟨trivial,h2,h3⟩
     ·rintro⟨h,h2,h3⟩;exact⟨.inl h,h2,h3⟩
   |some q=>
    cases hm:Qel ats m with
    |true=>simp[hm]
    |false=>
     by_cases h2:Qau q m= -1
     ·have h3:¬0≤Qau q m:=oM;simp only[hm,h3,Bool.false_eq_true,or_false,false_or,if_false,decide_false];rw[ih];simp only[List.mem_cons,forall_eq_or_imp,h1,hm,true_and,and_true,reduceCtorEq,false_and,or_false];constructor
      ·rintro⟨h,h4,h5⟩;rcases h with h|rfl
       ·exact⟨⟨h2,h⟩,h4,h5⟩
       ·exact⟨⟨h2,trivial⟩,h4,h5⟩
      ·rintro⟨h,h4,h5⟩;exact⟨.inl h.2,h4,h5⟩
     ·have h3:0≤Qau q m:=by rcases Qbw q m with h|h|h<;>omega
      simp only[h3,true_or,if_true];constructor
      ·intro h;cases h
      ·rintro⟨h,_⟩;rcases h with h|h
       ·exact absurd h.1 h2
       ·cases h.1
  ·rw[if_pos h1];constructor
   ·intro h;exact absurd h h1
   ·rintro⟨_,h,_⟩;exact absurd (h m sI) h1
theorem checkS_fit {s:St}:Qax s=0↔Qpy s:=by
 unfold Qax Qpy Qnw;by_cases h1:Qb0 s.1=0
 ·rw[if_neg (by simpa using h1)];have hl:s.1.length≤300:=(Qd4 h1).1;by_cases h2:600<s.2.length
  ·rw[if_pos h2];constructor
   ·intro h;cases h
   ·rintro⟨_,_,h⟩;omega
  ·rw[if_neg h2,Qkg];simp only;constructor
   ·rintro⟨h,h3,h4⟩;refine⟨⟨Qx7 h1,?_,h3,h4⟩,hl,oM⟩;rcases h with h|⟨h,_⟩
    ·exact h
    ·rw[h];trivial
   ·rintro⟨⟨_,h,h3,h4⟩,_⟩;exact⟨.inl h,h3,h4⟩
 ·rw[if_pos h1];constructor
  ·intro h;exact absurd h h1
  ·rintro⟨⟨h,_⟩,h2,_⟩;rw[Qsq h,if_neg oM] at h1;exact absurd rfl h1
theorem checkDL_ok:∀{l:List De},Qce l=0↔∀d∈l,Qat d=0
 | []=>by simp[Qce]
 |d::l=>by
  unfold Qce;by_cases h:Qat d=0
  ·rw[if_neg (by simpa using h),checkDL_ok];simp[h]
  ·rw[if_pos h];simp[h]
theorem Q2k (l:List At) (a:At) (m:Mk):Qel (Qh3 l a) m=true→Qel l m=true∨a.1=m:=by
 rw[hasM_iff];rintro⟨x,hx,rfl⟩;rcases(Qnp hx).1 with h|⟨y,hy,h⟩
 ·exact .inr h.symm
 ·exact .inl (hasM_iff.2 ⟨y,hy,h⟩)
theorem Qqp {g:List Mk} {m:Mk}:∀(r l:List At),Qel (Qd7 g l r) m=true→Qel l m=true∨(∃a∈r,a.1=m∧Qc5 g m=false)
 | [],l,h=> .inl h
 |a::r,l,h=>by
  have e:Qd7 g l (a::r)=Qd7 g (Q8f g l a) r:=rfl;rw[e] at h;rcases Qqp r _ h with h|⟨x,hx,h1,h2⟩
  ·unfold Q8f at h;cases hg:Qc5 g a.1 with
   |true=>rw[hg,if_pos rfl] at h;exact .inl h
   |false=>
    rw[hg,if_neg sI] at h;rcases Q2k l a m h with h|rfl
    ·exact .inl h
    ·exact .inr ⟨a,sI,rfl,hg⟩
  ·exact .inr ⟨x,by simp[hx],h1,h2⟩
theorem hasM_takeA {l:List At} {ms:List Mk} {m:Mk}:Qel (Qbb l ms) m=true↔Qel l m=true∧Qc5 ms m=false:=by
 rw[hasM_iff,hasM_iff];unfold Qbb;constructor
 ·rintro⟨a,ha,rfl⟩;obtain⟨h1,h2⟩:=List.mem_filter.1 ha;exact⟨⟨a,h1,rfl⟩,by simpa using h2⟩
 ·rintro⟨⟨a,ha,rfl⟩,h⟩;exact⟨a,List.mem_filter.2 ⟨ha,by simpa using h⟩,rfl⟩
theorem Qo9:∀(ms l:List Mk) (x:Mk),Qc5 (Qc9 l ms) x=(Qc5 l x ||Qc5 ms x)
 | [],l,x=>by simp[Qc9,Qc5]
 |m::ms,l,x=>by
  have e:Qc9 l (m::ms)=Qc9 (Qmf l m) ms:=rfl;rw[e,Qo9 ms,Quj,Qfz,Bool.or_assoc]
theorem Quk {ms l:List Mk} {x:Mk} (h:x∈Qc9 l ms):x∈l∨x∈ms:=by
 have:=Qo9 ms l x;rw[hasG_iff.2 h] at this;have h2:=this.symm;rw[Bool.or_eq_true,hasG_iff,hasG_iff] at h2;exact h2
theorem Qfx {d:De} (h:Qat d=0) (h1:¬d.kind=1):d.kind=2∧Qaf d.mark=0∧(∃n:Nat,d.many=(n:Int)∧1≤n∧n≤60)∧Qbf d.run.1=true∧d.run.2=[]∧(Qb9 d.mark (d.many-1)).2=0:=by
 by_cases h2:d.kind=2
 ·by_cases h3:Qaf d.mark=0
  ·by_cases h4:Qbf d.run.1=false∨d.run.2≠[]
   ·rw[Qda h1 h2 h3 h4] at h;cases h
   ·have h4a:Qbf d.run.1=true:=by cases h5:Qbf d.run.1 with
     |true=>rfl
     |false=>exact absurd (.inl h5) h4
    have h4b:d.run.2=[]:=by
     by_cases h5:d.run.2=[]
     ·exact h5
     ·exact absurd (.inr h5) h4
    by_cases h5:d.many<1∨60<d.many
    ·rw[Qeo h1 h2 h3 h4a h4b h5] at h;cases h
    ·rw[Qd9 h1 h2 h3 h4a h4b h5] at h;refine⟨h2,h3,⟨d.many.toNat,oM,oM,oM⟩,h4a,h4b,h⟩
  ·rw[Qft h1 h2 h3] at h;exact absurd h h3
 ·rw[Qjz h1 h2] at h;cases h
theorem Qge {d:De} (h:Qat d=0) (h1:d.kind=1):Qbd d.run=0∧Qbf d.mark=true∧d.many=0:=by
 by_cases h2:Qbd d.run=0
 ·by_cases h3:Qbf d.mark=false∨d.many≠0
  ·rw[Qdo h1 h2 h3] at h;cases h
  ·refine⟨h2,?_,?_⟩
   ·cases h5:Qbf d.mark with
    |true=>rfl
    |false=>exact absurd (.inl h5) h3
   ·by_cases h5:d.many=0
    ·exact h5
    ·exact absurd (.inr h5) h3
 ·rw[Qgn h1 h2] at h;exact absurd h h2
theorem Qmy {m:Mk} {n:Nat} (h:(Qb9 m ((n:Int)-1)).2=0):∀x∈Qbr m n,Qaf x=0:=by
 obtain⟨h1,h2,h3,h4⟩:=nextM_ok.1 h;intro x hx;unfold Qbr at hx;obtain⟨i,hi,rfl⟩:=List.mem_map.1 hx;have:i<n:=by simpa using hi
 exact Qki h1 h4 oM oM
theorem Qhl (r:Rn):(Qav r).map (·.1)=Qbr r.1 r.2.length:=by simp[Qav,Qbr]
theorem Qmx {d:De} (h:Qat d=0):∀x∈Qbl d,Qaf x=0:=by
 unfold Qbl;by_cases h1:d.kind=1
 ·rw[if_pos h1];exact Qmy (Qb1 (Qge h h1).1).2.2.2.2
 ·rw[if_neg h1];obtain⟨_,_,⟨n,hn,_,_⟩,_,_,h6⟩:=Qfx h h1;rw[hn] at h6 ⊢;exact Qmy h6
theorem Qmv {s:St} {d:De} (hs:Qnw s) (hd:Qat d=0):Qnw (Qbp s d):=by
 obtain⟨h1,h2,h3,h4⟩:=hs;unfold Qbp;by_cases hk:d.kind=1
 ·rw[if_pos hk];have hr:=(Qd4 (Qjv (Qge hd hk).1)).2.2;refine⟨Qpb h1 hr,h2,h3,fun m hm=> ?_⟩;cases h:Qel (Qd7 s.2 s.1 (Qav d.run)) m with
  |false=>rfl
  |true=>
   rcases Qqp _ _ h with h5|⟨a,_,_,h6⟩
   ·rw[h4 m hm] at h5;cases h5
   ·rw[hasG_iff.2 hm] at h6;cases h6
 ·rw[if_neg hk];refine⟨Qpl h1,Qgj h2,fun m hm=> ?_,fun m hm=> ?_⟩
  ·rcases Quk hm with h|h
   ·exact h3 m h
   ·exact Qmx hd m h
  ·cases h:Qel (Qbb s.1 (Qbl d)) m with
   |false=>rfl
   |true=>
    obtain⟨h5,h6⟩:=hasM_takeA.1 h;rcases Quk hm with h7|h7
    ·rw[h4 m h7] at h5;cases h5
    ·rw[hasG_iff.2 h7] at h6;cases h6
theorem Qri {s:St} (h:Qcb s=false):s.1.length≤300∧s.2.length≤600:=by
 unfold Qcb at h;simp at h;omega
theorem Qko:∀{l:List De} {s t:St},Qpy s→(∀d∈l,Qat d=0)→Qfc s l=some t→Qpy t
 | [],s,t,hs,_,h=>by
  have:s=t:=by simpa [Qfc] using h
  exact this▸hs
 |d::l,s,t,hs,hd,h=>by
  unfold Qfc at h;cases hm:Qcb (Qbp s d) with
  |true=>rw[hm,if_pos rfl] at h;cases h
  |false=>
   rw[hm,if_neg sI] at h;exact Qko ⟨Qmv hs.1 (hd d sI),(Qri hm).1,(Qri hm).2⟩ (fun x hx=>hd x (by simp[hx])) h
theorem Qr0:∀(l m:List De) (s:St),Qfc s (l++m)=(Qfc s l).bind fun t=>Qfc t m
 | [],m,s=>rfl
 |d::l,m,s=>by
  show(if Qcb (Qbp s d)=true then none else Qfc (Qbp s d) (l++m))=(if Qcb (Qbp s d)=true then none else Qfc (Qbp s d) l).bind fun t=>Qfc t m
  by_cases h:Qcb (Qbp s d)=true
  ·rw[if_pos h,if_pos h];rfl
  ·rw[if_neg h,if_neg h];exact Qr0 l m _
theorem Q5q (s:St) (d:De):Qfc s [d]=if Qcb (Qbp s d)=true then none else some (Qbp s d):=by unfold Qfc;rfl
theorem Qtj {s t:St} {l:List De} {k:Nat} {d:De} (h:l[k]?=some d) (ht:Qfc s (l.take k)=some t):
  (Qcb (Qbp t d)=true→Qfc s l=none)∧(Qcb (Qbp t d)=false→Qfc s (l.take (k+1))=some (Qbp t d)):=by
 obtain⟨h1,h2⟩:=List.getElem?_eq_some_iff.1 h;have e:Qfc s (l.take (k+1))=if Qcb (Qbp t d)=true then none else some (Qbp t d):=by
  rw[List.take_succ_eq_append_getElem h1,h2,Qr0,ht];exact Q5q t d
 refine⟨fun hm=> ?_,fun hm=> ?_⟩
 ·have e2:l=l.take (k+1)++l.drop (k+1):=(List.take_append_drop _ _).symm;rw[e2,Qr0,e,if_pos hm];rfl
 ·rw[e,if_neg (by rw[hm];simp)]
def Qne (s:St) (l:List De):Int:=if Qax s≠0 then Qax s else if Qce l≠0 then Qce l else if Qfc s l=none then 2 else 0
def Qrn (s:St) (l:List De):St:=if Qne s l=0 then(Qfc s l).getD ([],[]) else([],[])
theorem allE_ok {s:St} {l:List De}:Qne s l=0↔Qpy s∧(∀d∈l,Qat d=0)∧Qfc s l≠none:=by
 unfold Qne;rw[←checkS_fit,←checkDL_ok];by_cases h1:Qax s=0
 ·by_cases h2:Qce l=0
  ·rw[if_neg (by simpa using h1),if_neg (by simpa using h2)];split
   ·rename_i h;simp[h1,h2,h]
   ·rename_i h;simp[h1,h2,h]
  ·rw[if_neg (by simpa using h1),if_pos h2];simp[h2]
 ·rw[if_pos h1];simp[h1]
def Qrg (d:De) (x:Mk):Bool:= !decide (d.kind=1) && Qc5 (Qbl d) x
def Qwl (d:De) (x:Mk):Option UInt8:=if d.kind=1 then Qk2 (Qav d.run) x else none
theorem Qk3:∀(l:List At) (x:Mk),Qk2 l x=none↔Qel l x=false
 | [],x=>by simp[Qk2,Qel]
 |a::r,x=>by
  rw[Qdc,Qie,Bool.or_eq_false_iff,←Qk3 r x];unfold one;by_cases h:Qau a.1 x=0
  ·rw[if_pos h,decide_eq_true h];cases Qk2 r x<;>simp[Qng]
  ·rw[if_neg h,decide_eq_false h];cases Qk2 r x<;>simp[Qng]
theorem Qep (g:List Mk):∀(m:List At) (x:Mk),Qk2 (m.filter fun a=> !Qc5 g a.1) x=if Qc5 g x=true then none else Qk2 m x
 | [],x=>by simp[Qk2]
 |a::r,x=>by
  rw[List.filter_cons];by_cases h:Qau a.1 x=0
  ·have e:a.1=x:=ordM_zero.1 h;cases hg:Qc5 g x with
   |true=>
    rw[e,hg,if_neg sI,Qep g r x,hg,if_pos rfl,if_pos rfl]
   |false=>
    rw[e,hg,if_pos sI,if_neg sI,Qdc,Qdc,Qep g r x,hg,if_neg sI]
  ·have e1:one a x=none:=by unfold one;rw[if_neg h]
   have e2:Qng none (Qk2 r x)=Qk2 r x:=by rw[Qkl,Qic]
   split
   ·rw[Qdc,Qdc,Qep g r x,e1,e2];split
    ·rfl
    ·rw[Qkl,Qic]
   ·rw[Qdc,Qep g r x,e1,e2]
theorem Qtr (s:St) (d:De) (x:Mk):Qc5 (Qbp s d).2 x=(Qc5 s.2 x ||Qrg d x):=by
 unfold Qbp Qrg;by_cases h:d.kind=1
 ·rw[if_pos h,decide_eq_true h];simp
 ·rw[if_neg h,decide_eq_false h];simp only[Bool.not_false,Bool.true_and];exact Qo9 _ _ _
theorem Qoo {s:St} (hs:Qnw s) {x:Mk} (h:Qc5 s.2 x=true):Qk2 s.1 x=none:=(Qk3 _ _).2 (hs.2.2.2 x (hasG_iff.1 h))
theorem Q2y {s:St} {d:De} (hs:Qnw s) (x:Mk):Qk2 (Qbp s d).1 x=if Qc5 (Qbp s d).2 x=true then none else Qng (Qk2 s.1 x) (Qwl d x):=by
 rw[Qtr];unfold Qbp Qwl Qrg;by_cases h:d.kind=1
 ·rw[if_pos h,if_pos h,decide_eq_true h];simp only[Bool.not_true,Bool.false_and,Bool.or_false];rw[Qeu,Qqu,Qep];by_cases hg:Qc5 s.2 x=true
  ·rw[if_pos hg,if_pos hg,Qoo hs hg];rfl
  ·rw[if_neg hg,if_neg hg]
 ·rw[if_neg h,if_neg h,decide_eq_false h,Qic];simp only[Bool.not_false,Bool.true_and];have e:Qk2 (Qbb s.1 (Qbl d)) x=if Qc5 (Qbl d) x=true then none else Qk2 s.1 x:=Qep _ _ _
  rw[e];by_cases hg:Qc5 s.2 x=true
  ·rw[hg,Bool.true_or,if_pos rfl,Qoo hs hg];split<;>rfl
  ·have hg':Qc5 s.2 x=false:=by simpa using hg
   rw[hg',Bool.false_or]
def Qz0 (l:List De) (x:Mk) (o:Option UInt8):Option UInt8:=l.foldl (fun o d=>Qng o (Qwl d x)) o
theorem Qol:∀{l:List De} {s t:St},Qnw s→(∀d∈l,Qat d=0)→Qfc s l=some t→∀x,Qc5 t.2 x=(Qc5 s.2 x ||l.any fun d=>Qrg d x)∧Qk2 t.1 x=if Qc5 t.2 x=true then none else Qz0 l x (Qk2 s.1 x)
 | [],s,t,hs,_,h,x=>by
  have e:s=t:=by simpa [Qfc] using h
  subst e;refine⟨sI,?_⟩;by_cases hg:Qc5 s.2 x=true
  ·rw[if_pos hg,Qoo hs hg]
  ·rw[if_neg hg];rfl
 |d::l,s,t,hs,hd,h,x=>by
  unfold Qfc at h;cases hm:Qcb (Qbp s d) with
  |true=>rw[hm,if_pos rfl] at h;cases h
  |false=>
   rw[hm,if_neg sI] at h;obtain⟨i1,i2⟩:=Qol (Qmv hs (hd d sI)) (fun y hy=>hd y (by simp[hy])) h x;refine⟨by rw[i1,Qtr,List.any_cons,Bool.or_assoc],?_⟩;rw[i2];by_cases hg:Qc5 t.2 x=true
   ·rw[if_pos hg,if_pos hg]
   ·rw[if_neg hg,if_neg hg,Q2y hs];have hg2:Qc5 (Qbp s d).2 x=false:=by
     have:Qc5 t.2 x=false:=by simpa using hg
     rw[i1,Bool.or_eq_false_iff] at this;exact this.1
    rw[hg2,if_neg sI];rfl
def key:Option UInt8→Nat
 |none=>256
 |some u=>u.toNat
theorem Q9s {a b:Option UInt8} (h:key a=key b):a=b:=by
 cases a with
 |none=>
  cases b with
  |none=>rfl
  |some v=>simp only[key] at h;have:=v.toNat_lt;omega
 |some u=>
  cases b with
  |none=>simp only[key] at h;have:=u.toNat_lt;omega
  |some v=>simp only[key] at h;rw[UInt8.toNat_inj.1 h]
theorem Q6c (a b:Option UInt8):key (Qng a b)=min (key a) (key b):=by
 cases a with
 |none=>cases b with
  |none=>rfl
  |some v=>simp only[Qng,key];have:=v.toNat_lt;omega
 |some u=>cases b with
  |none=>simp only[Qng,key];have:=u.toNat_lt;omega
  |some v=>simp only[Qng,key,Qt7]
theorem Q2w (n:Nat) (x:Mk):∀(l:List De) (o:Option UInt8),n≤key (Qz0 l x o)↔n≤key o∧∀d∈l,n≤key (Qwl d x)
 | [],o=>by simp[Qz0]
 |d::l,o=>by
  have e:Qz0 (d::l) x o=Qz0 l x (Qng o (Qwl d x)):=rfl;rw[e,Q2w n x l,Q6c,Nat.le_min];simp only[List.mem_cons,forall_eq_or_imp,and_assoc]
theorem Q47 {s:St} {l:List De} (h:Qne s l=0) {m:Mk} (hm:Qel (Qrn s l).1 m=true):Qel s.1 m=true∨∃d∈l,d.kind=1∧m∈Qbl d:=by
 obtain⟨h1,h2,h3⟩:=allE_ok.1 h;cases ha:Qfc s l with
 |none=>exact absurd ha h3
 |some a=>
  have e:Qrn s l=a:=by unfold Qrn;rw[if_pos h,ha];rfl
  rw[e] at hm;have hl:Qk2 a.1 m≠none:=fun h9=>by rw[(Qk3 _ _).1 h9] at hm;cases hm
  rw[(Qol h1.1 h2 ha m).2] at hl;by_cases hs:Qel s.1 m=true
  ·exact .inl hs
  ·right
   have hs':Qk2 s.1 m=none:=(Qk3 _ _).2 (by simpa using hs);by_cases hg:Qc5 a.2 m=true
   ·rw[if_pos hg] at hl;exact absurd rfl hl
   ·rw[if_neg hg,hs'] at hl;refine Classical.byContradiction fun hno=>hl (Q9s (Nat.le_antisymm (by
     generalize Qz0 l m none=o;cases o with
     |none=>exact Nat.le_refl _
     |some u=>have:=u.toNat_lt;simp only[key];omega) ((Q2w _ m l none).2 ⟨Nat.le_refl _,fun d hd=> ?_⟩)))
    have:Qwl d m=none:=by
     unfold Qwl;by_cases hk:d.kind=1
     ·rw[if_pos hk];refine(Qk3 _ _).2 ?_;cases h9:Qel (Qav d.run) m with
      |false=>rfl
      |true=>
       obtain⟨x,hx,rfl⟩:=hasM_iff.1 h9;exact absurd ⟨d,hd,hk,by unfold Qbl;rw[if_pos hk,←Qhl];exact List.mem_map.2 ⟨x,hx,rfl⟩⟩ hno
     ·rw[if_neg hk]
    rw[this];exact Nat.le_refl _
end Go.Proofs.YtgnccjojfebkeaaGreat
namespace Go.Proofs.YtgnccjojfebkeaaGreat
open Go Cp
def Qdz (a b:No):Int:=if Qdl a.site b.site=0 then Qdl a.number b.number else Qdl a.site b.site
theorem ordN_zero {a b:No}:Qdz a b=0↔a.site=b.site∧a.number=b.number:=by
 unfold Qdz;by_cases h:Qdl a.site b.site=0
 ·rw[if_pos h,cmpI_zero];rw[cmpI_zero] at h;exact⟨fun k=>⟨h,k⟩,fun k=>k.2⟩
 ·rw[if_neg h];exact⟨fun k=>absurd k h,fun k=>cmpI_zero.2 k.1⟩
theorem Qer (a b:No):Qdz a b= -1∨Qdz a b=0∨Qdz a b=1:=by unfold Qdz;split<;>exact Ql4 _ _
theorem Q6r {a b:No}:Qdz a b= -1↔a.site<b.site∨a.site=b.site∧a.number<b.number:=by
 unfold Qdz;by_cases h:Qdl a.site b.site=0
 ·rw[if_pos h,Qkk];rw[cmpI_zero] at h;omega
 ·rw[if_neg h,Qkk];rw[cmpI_zero] at h;omega
theorem Quc (a b:No):Qdz b a= - Qdz a b:=by
 unfold Qdz;rw[Qib a.site b.site,Qib a.number b.number];by_cases h:Qdl a.site b.site=0
 ·rw[if_pos oM,if_pos h]
 ·rw[if_neg oM,if_neg h]
theorem Qg0 {a b c:No} (h:Qdz a b= -1) (k:Qdz b c= -1):Qdz a c= -1:=by
 rw[Q6r] at h k ⊢;omega
def Qik {α:Type} (f:α→Int) (n:Int) (l:List α):Int:=l.foldl (fun n x=>Qk4 n (f x)) n
theorem maxI_le {a b c:Int}:Qk4 a b≤c↔a≤c∧b≤c:=by unfold Qk4;split<;>omega
theorem Q22 {α:Type} (f:α→Int) (n:Int) (x:α) (l:List α):Qik f n (x::l)=Qik f (Qk4 n (f x)) l:=rfl
theorem Qil {α:Type} (f:α→Int):∀(l:List α) (n c:Int),Qik f n l≤c↔n≤c∧∀x∈l,f x≤c
 | [],n,c=>by simp[Qik]
 |x::l,n,c=>by
  rw[Q22,Qil f l,maxI_le];simp only[List.mem_cons,forall_eq_or_imp,and_assoc]
theorem Qxq {α:Type} (f:α→Int) (n:Int) (l m:List α):Qik f n (l++m)=Qik f (Qik f n l) m:=by unfold Qik;rw[List.foldl_append]
theorem Qim {α:Type} (f:α→Int) (n:Int) {l:List α} {k:Nat} {x:α} (h:l[k]?=some x):Qik f n (l.take (k+1))=Qk4 (Qik f n (l.take k)) (f x):=by
 obtain⟨h1,h2⟩:=List.getElem?_eq_some_iff.1 h;rw[List.take_succ_eq_append_getElem h1,h2,Qxq];rfl
def Qgu (site:Int) (m:Mk):Int:=if Qbq m.1=site then m.2 else 0
def Qhu (d:De):Mk:=if d.kind=1 then d.run.1 else d.mark
def Qhv (d:De):Int:=if d.kind=1 then(d.run.2.length:Int)-1 else d.many-1
def Qps (site:Int) (d:De):Int:=Qgu site (Qar (Qhu d) (Qhv d))
def Qhz (site:Int) (l:List De):Int:=Qik (Qps site) 0 l
def Qrw (site:Int) (n:Int) (l:List At):Int:=Qik (fun a=>Qgu site a.1) n l
def Qrx (site:Int) (n:Int) (l:List Mk):Int:=Qik (Qgu site) n l
def Qoi (site:Int) (n:Int) (l:List No):Int:=Qik (fun x=>Qhz site x.deeds) n l
def Qdv (d:Dk):Int:=Qoi d.site (Qrx d.site (Qrw d.site 0 d.state.1) d.state.2) (d.waits++d.out)
def Qs1 (site:Int) (seen:List Int) (p:Option No) (n:No):Bool:=
 (match p with|none=>false|some q=>decide (0≤Qdz q n)) ||(n.site==site) ||decide (n.number≤atI seen n.site.toNat) ||decide (atI seen site.toNat<atI n.needs site.toNat) ||Qb5 seen n
def Qf8 (site:Int) (seen:List Int):Option No→List No→Bool
 |_,[]=>false
 |p,n::r=>Qs1 site seen p n ||Qf8 site seen (some n) r
def Qcw (d:Dk):Bool:=Qf8 d.site d.seen none d.waits
def Qzr (site:Int):Int→List No→Bool
 |_,[]=>true
 |k,n::r=>(n.site==site && n.number==k) && Qzr site (k+1) r
def Qpw (d:Dk):Bool:=Qzr d.site (atI d.seen d.site.toNat-d.out.length+1) d.out
def Qc2:List No→Int
 | []=>0
 |n::r=>if Qa0 n≠0 then Qa0 n else Qc2 r
def Qde (d:Dk):Int:=
 if inB d.site 0 4=false then 3 else if Qax d.state≠0 then Qax d.state else if Qbx d.seen≠0 then Qbx d.seen
 else if 40<d.waits.length∨500<d.out.length then 2 else Qc2 (d.waits++d.out)
def Qaq (d:Dk):Int:=
 if Qde d≠0 then Qde d else if Qcw d=true∨Qpw d=false∨d.clock≤Qdv d then 4 else if inB d.clock 1 10001=false then 3 else 0
theorem checkNL_ok:∀{l:List No},Qc2 l=0↔∀n∈l,Qa0 n=0
 | []=>⟨fun _ n h=>by simp at h,fun _=>rfl⟩
 |x::r=>by
  show(if Qa0 x≠0 then Qa0 x else Qc2 r)=0↔_
  by_cases h:Qa0 x=0
  ·rw[if_neg (by simpa using h),checkNL_ok];constructor
   ·intro k n hn;rcases List.mem_cons.1 hn with rfl|hn
    ·exact h
    ·exact k n hn
   ·exact fun k n hn=>k n (List.mem_cons_of_mem _ hn)
  ·rw[if_pos h];exact⟨fun e=>absurd e h,fun k=>absurd (k x (List.mem_cons_self ..)) h⟩
theorem Qms {l:List No} {k:Nat} {n:No} (h:l[k]?=some n):Qc2 (l.drop k)=if Qa0 n≠0 then Qa0 n else Qc2 (l.drop (k+1)):=by rw[Qci h];rfl
def okW (site:Int) (seen:List Int) (n:No):Prop:=n.site≠site∧atI seen n.site.toNat<n.number∧atI n.needs site.toNat≤atI seen site.toNat∧Qb5 seen n=false
def Qdi (l:List No):Prop:=l.Pairwise fun a b=>Qdz a b= -1
theorem badW_ok {site:Int} {seen:List Int} {p:Option No} {n:No}:Qs1 site seen p n=false↔(∀q,p=some q→Qdz q n= -1)∧okW site seen n:=by
 unfold Qs1 okW;simp only[Bool.or_eq_false_iff,decide_eq_false_iff_not,Int.not_le,Int.not_lt,beq_eq_false_iff_ne,and_assoc];have:(match p with|none=>false|some q=>decide (0≤Qdz q n))=false↔∀q,p=some q→Qdz q n= -1:=by
  cases p with
  |none=>simp
  |some q=>
   simp only[decide_eq_false_iff_not,Option.some.injEq];have:=Qer q n;constructor
   ·rintro h _ rfl;omega
   ·intro h;have:=h q rfl;omega
 rw[this]
theorem Qu5 {site:Int} {seen:List Int}:∀{l:List No} {p:Option No},Qf8 site seen p l=false↔(∀q,p=some q→∀n∈l,Qdz q n= -1)∧Qdi l∧∀n∈l,okW site seen n
 | [],p=>⟨fun _=>⟨sI,List.Pairwise.nil,sI⟩,fun _=>rfl⟩
 |n::r,p=>by
  show(Qs1 site seen p n ||Qf8 site seen (some n) r)=false↔_
  rw[Bool.or_eq_false_iff,badW_ok,Qu5];unfold Qdi;rw[List.pairwise_cons];constructor
  ·rintro⟨⟨h1,h2⟩,h3,h4,h5⟩;refine⟨fun q hq x hx=> ?_,⟨h3 n rfl,h4⟩,fun x hx=> ?_⟩
   ·rcases List.mem_cons.1 hx with rfl|hx
    ·exact h1 q hq
    ·exact Qg0 (h1 q hq) (h3 n rfl x hx)
   ·rcases List.mem_cons.1 hx with rfl|hx
    ·exact h2
    ·exact h5 x hx
  ·rintro⟨h1,⟨h2,h3⟩,h4⟩;refine⟨⟨fun q hq=>h1 q hq n (List.mem_cons_self ..),h4 n (List.mem_cons_self ..)⟩,fun q hq x hx=> ?_,h3,fun x hx=>h4 x (List.mem_cons_of_mem _ hx)⟩;injection hq with hq
   subst hq;exact h2 x hx
theorem wrongK_ok {d:Dk}:Qcw d=false↔Qdi d.waits∧∀n∈d.waits,okW d.site d.seen n:=by
 unfold Qcw;rw[Qu5];simp
theorem outF_ok {site:Int}:∀{l:List No} {k:Int},Qzr site k l=true↔∀(i:Nat) (n:No),l[i]?=some n→n.site=site∧n.number=k+i
 | [],k=>⟨fun _ i n h=>by simp at h,fun _=>rfl⟩
 |x::r,k=>by
  show((x.site==site && x.number==k) && Qzr site (k+1) r)=true↔_
  rw[Bool.and_eq_true,Bool.and_eq_true,outF_ok];simp only[beq_iff_eq];constructor
  ·rintro⟨⟨h1,h2⟩,h3⟩ i n hi;cases i with
   |zero=>
    obtain rfl:x=n:=by simpa using hi
    exact⟨h1,by simpa using h2⟩
   |succ i=>
    have:=h3 i n (by simpa using hi);exact⟨this.1,by rw[this.2];omega⟩
  ·intro h;refine⟨by have:=h 0 x rfl;exact⟨this.1,by simpa using this.2⟩,fun i n hi=> ?_⟩;have:=h (i+1) n (by simpa using hi);exact⟨this.1,by rw[this.2];omega⟩
structure RightK (d:Dk):Prop where
 site:0≤d.site∧d.site≤4
 state:Qpy d.state
 seen:Qbx d.seen=0
 lw:d.waits.length≤40
 lo:d.out.length≤500
 nw:∀n∈d.waits,Qa0 n=0
 no:∀n∈d.out,Qa0 n=0
 sorted:Qdi d.waits
 waits:∀n∈d.waits,okW d.site d.seen n
 out:∀(i:Nat) (n:No),d.out[i]?=some n→n.site=d.site∧n.number=atI d.seen d.site.toNat-d.out.length+1+i
 last:Qdv d<d.clock
 clock:1≤d.clock∧d.clock≤10001
theorem partsK_ok {d:Dk}:Qde d=0↔inB d.site 0 4=true∧Qax d.state=0∧Qbx d.seen=0∧d.waits.length≤40∧d.out.length≤500∧Qc2 (d.waits++d.out)=0:=by
 unfold Qde;cases h1:inB d.site 0 4 with
 |false=>simp
 |true=>
  by_cases h2:Qax d.state=0
  ·by_cases h3:Qbx d.seen=0
   ·by_cases h4:40<d.waits.length∨500<d.out.length
    ·rw[if_neg sI,if_neg (by simpa using h2),if_neg (by simpa using h3),if_pos h4];constructor
     ·intro h;cases h
     ·rintro⟨_,_,_,h5,h6,_⟩;omega
    ·rw[if_neg sI,if_neg (by simpa using h2),if_neg (by simpa using h3),if_neg h4];exact⟨fun h=>⟨rfl,h2,h3,oM,oM,h⟩,fun h=>h.2.2.2.2.2⟩
   ·rw[if_neg sI,if_neg (by simpa using h2),if_pos h3];exact⟨fun h=>absurd h h3,fun h=>absurd h.2.2.1 h3⟩
  ·rw[if_neg sI,if_pos h2];exact⟨fun h=>absurd h h2,fun h=>absurd h.2.1 h2⟩
theorem checkK_ok {d:Dk}:Qaq d=0↔RightK d:=by
 have hp:=partsK_ok (d:=d);have hb:∀{n a b:Int},inB n a b=true↔a≤n∧n≤b:=by intro n a b;unfold inB;simp
 unfold Qaq;constructor
 ·intro h;by_cases h1:Qde d=0
  ·rw[if_neg (by simpa using h1)] at h;by_cases h2:Qcw d=true∨Qpw d=false∨d.clock≤Qdv d
   ·rw[if_pos h2] at h;cases h
   ·rw[if_neg h2] at h;cases h3:inB d.clock 1 10001 with
    |false=>rw[h3,if_pos rfl] at h;cases h
    |true=>
     obtain⟨p1,p2,p3,p4,p5,p6⟩:=hp.1 h1;rw[checkNL_ok] at p6;have h4:Qcw d=false:=by cases e:Qcw d with|false=>rfl|true=>exact absurd (.inl e) h2
     have h5:Qpw d=true:=by cases e:Qpw d with|true=>rfl|false=>exact absurd (.inr (.inl e)) h2
     obtain⟨w1,w2⟩:=wrongK_ok.1 h4;exact⟨hb.1 p1,checkS_fit.1 p2,p3,p4,p5,fun n hn=>p6 n (List.mem_append_left _ hn),fun n hn=>p6 n (List.mem_append_right _ hn),w1,w2,outF_ok.1 h5,oM,hb.1 h3⟩
  ·rw[if_pos h1] at h;exact absurd h h1
 ·intro h;have h1:Qde d=0:=hp.2 ⟨hb.2 h.site,checkS_fit.2 h.state,h.seen,h.lw,h.lo,checkNL_ok.2 (fun n hn=>by rcases List.mem_append.1 hn with hn|hn;exact h.nw n hn;exact h.no n hn)⟩;have h4:Qcw d=false:=wrongK_ok.2 ⟨h.sorted,h.waits⟩;have h5:Qpw d=true:=outF_ok.2 h.out;have:=h.last;rw[if_neg (by simpa using h1),if_neg (by rw[h4,h5];simp;omega),hb.2 h.clock];simp
def Qu9:List No→No→List No
 | [],n=> [n]
 |x::r,n=>if Qdz x n= -1 then x::Qu9 r n else n::x::r
def Qu8 (l:List No) (n:No):Bool:=l.any fun x=>decide (Qdz x n=0)
def Qg2 (l:List No) (n:No):Nat:=l.countP fun x=>decide (Qdz x n<0)
def Qfq (d:Dk) (n:No):Bool:=decide (atI d.seen d.site.toNat<atI n.needs d.site.toNat)
def Qva (d:Dk) (n:No):Bool:=n.site==d.site ||decide (n.number≤atI d.seen n.site.toNat) ||Qu8 d.waits n
def Q4y (d:Dk) (n:No):Dk:={d with waits:=Qu9 d.waits n,clock:=Qk4 d.clock (1+Qhz d.site n.deeds)}
def Qd3 (l:List Int) (i:Nat):List Int:=l.set i (atI l i+1)
def Ql6 (d:Dk) (i:Nat) (x:No) (t:St):Dk:={d with state:=t,seen:=Qd3 d.seen x.site.toNat,waits:=d.waits.eraseIdx i}
def Qkp:Nat→Dk→Option Dk
 |0,d=>some d
 |k+1,d=>
  match d.waits.findIdx? (Qb5 d.seen) with
  |none=>some d
  |some i=>
   match d.waits[i]? with
   |none=>some d
   |some x=>
    match Qfc d.state x.deeds with
    |none=>none
    |some t=>Qkp k (Ql6 d i x t)
def Vbj (d:Dk) (n:No):Option Dk:=Qkp (d.waits.length+2) (Q4y d n)
def Q2d (d:Dk) (n:No):Int:=
 if Qva d n=true then 0 else if Qfq d n=true then 4 else
  match Vbj d n with
  |none=>2
  |some x=>if 40<x.waits.length then 2 else 0
def Q55 (d:Dk) (n:No):Dk:=if Qva d n=true then d else(Vbj d n).getD d
def noK:Dk:=⟨0,([],[]),[],[],0,[]⟩
def Q3r (d:Dk) (n:No):Int:=if Qaq d≠0 then Qaq d else if Qa0 n≠0 then Qa0 n else Q2d d n
def Van (d:Dk) (n:No):Dk:=if Q3r d n=0 then Q55 d n else noK
def Vam (site:Int):Dk:=⟨site,([],[]),[0,0,0,0,0],[],1,[]⟩
def Qiz (d:Dk):Int:=if Qaq d≠0 then Qaq d else if d.out=[] then 5 else 0
def Qre (d:Dk):Dk:=if Qiz d=0 then {d with out:=d.out.tail} else noK
theorem inB_iff {n a b:Int}:inB n a b=true↔a≤n∧n≤b:=by unfold inB;simp
theorem Q8v {l:List Int} {i:Nat} (h:i<l.length):l[i]?=some (atI l i):=by unfold atI;rw[List.getElem?_eq_getElem h];rfl
theorem checkI_iff {l:List Int}:Qbx l=0↔l.length=5∧∀i,i<5→0≤atI l i∧atI l i≤500:=by
 have hb:∀x:Int,Qf9 x=false↔0≤x∧x≤500:=by
  intro x;unfold Qf9;rw[Bool.not_eq_false',inB_iff]
 constructor
 ·intro h;obtain⟨h1,h2⟩:=Qhp h;rw[List.any_eq_false] at h2;refine⟨h1,fun i hi=>(hb _).1 ?_⟩;simpa using h2 (atI l i) (List.mem_of_getElem? (Q8v oM))
 ·rintro⟨h1,h2⟩;refine Qkh h1 ?_;rw[List.any_eq_false];intro x hx;obtain⟨i,hi⟩:=List.getElem?_of_mem hx;have hl:=(List.getElem?_eq_some_iff.1 hi).1;have:=(hb _).2 (h2 i oM);rw[←Qe2 hi] at this;simpa using this
theorem Qze {l m:List Int}:Qgh l m=true↔∀i,i<5→atI m i≤atI l i:=by
 unfold Qgh;rw[List.all_eq_true];simp
theorem readyB_iff {l:List Int} {n:No}:Qb5 l n=true↔(∀i,i<5→atI n.needs i≤atI l i)∧atI l n.site.toNat=n.number-1:=by
 unfold Qb5;rw[Bool.and_eq_true,Qze,beq_iff_eq]
structure RightN (n:No):Prop where
 site:0≤n.site∧n.site≤4
 number:1≤n.number∧n.number≤500
 needs:Qbx n.needs=0
 own:atI n.needs n.site.toNat=n.number-1
 some_:n.deeds≠[]
 few:n.deeds.length≤20
 deeds:∀d∈n.deeds,Qat d=0
theorem checkN_right {n:No}:Qa0 n=0↔RightN n:=by
 constructor
 ·intro h;obtain⟨g1,g2,g3⟩:=Qh9 h;have g4:n.needs.any Qf9=false:=by
   cases g:n.needs.any Qf9 with
   |false=>rfl
   |true=>rw[Qgd g1 g2 g3 g] at h;cases h
  rw[Qfu g1 g2 g3 g4] at h;by_cases h1:n.needs[n.site.toNat]?.getD 0≠n.number-1
  ·rw[if_pos h1] at h;cases h
  ·rw[if_neg h1] at h;by_cases h2:n.deeds.length=0
   ·rw[if_pos h2] at h;cases h
   ·rw[if_neg h2] at h;by_cases h3:20<n.deeds.length
    ·rw[if_pos h3] at h;cases h
    ·rw[if_neg h3] at h;exact⟨inB_iff.1 g1,inB_iff.1 g2,Qkh g3 g4,Classical.not_not.1 h1,fun e=>h2 (by rw[e];rfl),oM,checkDL_ok.1 h⟩
 ·rintro⟨h1,h2,h3,h4,h5,h6,h7⟩;obtain⟨g3,g4⟩:=Qhp h3;rw[Qfu (inB_iff.2 h1) (inB_iff.2 h2) g3 g4,if_neg (fun k=>k h4),if_neg (fun e=>h5 (List.eq_nil_of_length_eq_zero e)),if_neg oM];exact checkDL_ok.2 h7
theorem Qw7 (l:List Int) (i:Nat):(Qd3 l i).length=l.length:=by simp[Qd3]
theorem Q1j {l:List Int} {i:Nat} (hi:i<l.length) (j:Nat):atI (Qd3 l i) j=if i=j then atI l j+1 else atI l j:=by
 unfold atI Qd3;rw[List.getElem?_set];by_cases h:i=j
 ·subst h;rw[if_pos rfl,if_pos rfl,if_pos hi];rfl
 ·rw[if_neg h,if_neg h]
theorem Q7h {α:Type} {l:List α} {i:Nat} {x:α} (h:l[i]?=some x):l=l.take i++x::l.drop (i+1):=by
 obtain⟨h1,h2⟩:=List.getElem?_eq_some_iff.1 h;conv=>lhs;rw[←List.take_append_drop i l,List.drop_eq_getElem_cons h1,h2]
theorem Qxd {α:Type} {l:List α} {i:Nat}:l.eraseIdx i=l.take i++l.drop (i+1):=List.eraseIdx_eq_take_drop_succ l i
theorem Qin {α:Type} {l:List α} {i:Nat} {y:α} (h:y∈l.eraseIdx i):y∈l:=List.mem_of_mem_eraseIdx h
theorem Qsy {l:List No} (h:Qdi l) (i:Nat):Qdi (l.eraseIdx i):=List.Pairwise.sublist (List.eraseIdx_sublist l i) h
theorem Q5y {l:List No} (hs:Qdi l) {i:Nat} {x y:No} (hx:l[i]?=some x) (hy:y∈l.eraseIdx i):Qdz y x≠0:=by
 have e:=Q7h hx;rw[Qxd] at hy;unfold Qdi at hs;rw[e,List.pairwise_append] at hs;obtain⟨_,h2,h3⟩:=hs;rw[List.pairwise_cons] at h2;rcases List.mem_append.1 hy with hy|hy
 ·have:=h3 y hy x (List.mem_cons_self ..);omega
 ·have:=h2.1 y hy;have:=Quc x y;omega
theorem mem_insN:∀{l:List No} {n x:No},x∈Qu9 l n↔x=n∨x∈l
 | [],n,x=>by simp[Qu9]
 |y::r,n,x=>by
  unfold Qu9;split
  ·rw[List.mem_cons,mem_insN,List.mem_cons];constructor
   ·rintro(h|h|h)
    ·exact .inr (.inl h)
    ·exact .inl h
    ·exact .inr (.inr h)
   ·rintro(h|h|h)
    ·exact .inr (.inl h)
    ·exact .inl h
    ·exact .inr (.inr h)
  ·rw[List.mem_cons]
theorem Qxf:∀(l:List No) (n:No),(Qu9 l n).length=l.length+1
 | [],n=>rfl
 |y::r,n=>by
  unfold Qu9;split
  ·rw[List.length_cons,Qxf r n,List.length_cons]
  ·rfl
theorem hasN_false {l:List No} {n:No}:Qu8 l n=false↔∀x∈l,Qdz x n≠0:=by
 unfold Qu8;rw[List.any_eq_false];simp
theorem Qot:∀{l:List No} {n:No},Qdi l→Qu8 l n=false→Qdi (Qu9 l n)
 | [],n,_,_=>List.pairwise_singleton ..
 |y::r,n,h,k=>by
  obtain⟨h1,h2⟩:=List.pairwise_cons.1 h;have k':=hasN_false.1 k;have hy:=k' y (List.mem_cons_self ..);unfold Qu9;split
  ·rename_i e
   refine List.pairwise_cons.2 ⟨fun b hb=> ?_,Qot h2 (hasN_false.2 fun x hx=>k' x (List.mem_cons_of_mem _ hx))⟩;rcases mem_insN.1 hb with rfl|hb
   ·exact e
   ·exact h1 b hb
  ·rename_i e
   have hn:Qdz n y= -1:=by have:=Qer y n;have:=Quc y n;omega
   refine List.pairwise_cons.2 ⟨fun b hb=> ?_,h⟩;rcases List.mem_cons.1 hb with rfl|hb
   ·exact hn
   ·exact Qg0 hn (h1 b hb)
theorem Qwk (x:No) (r:List No) (n:No):Qg2 (x::r) n=Qg2 r n+if Qdz x n<0 then 1 else 0:=by
 unfold Qg2;rw[List.countP_cons];simp
theorem Q3n (l:List No) (n:No):Qg2 l n≤l.length:=List.countP_le_length
theorem Q2q:∀{l:List No} {n:No},Qdi l→Qu9 l n=l.take (Qg2 l n)++n::l.drop (Qg2 l n)
 | [],n,_=>rfl
 |y::r,n,h=>by
  obtain⟨h1,h2⟩:=List.pairwise_cons.1 h;rw[Qwk];unfold Qu9;split
  ·rename_i e
   rw[Q2q h2,if_pos oM];rfl
  ·rename_i e
   have hr:=Qer y n;have hz:Qg2 r n=0:=by
    unfold Qg2;rw[List.countP_eq_zero];intro b hb;have h3:=h1 b hb;have:¬Qdz b n<0:=fun hl=>by
     have hb':Qdz b n= -1:=by have:=Qer b n;omega
     exact e (Qg0 h3 hb')
    simpa using this
   rw[hz,if_neg oM];rfl
structure MidK (d:Dk):Prop where
 site:0≤d.site∧d.site≤4
 state:Qpy d.state
 seen:Qbx d.seen=0
 lo:d.out.length≤500
 nw:∀n∈d.waits,Qa0 n=0
 no:∀n∈d.out,Qa0 n=0
 sorted:Qdi d.waits
 waits:∀n∈d.waits,n.site≠d.site∧atI d.seen n.site.toNat<n.number∧atI n.needs d.site.toNat≤atI d.seen d.site.toNat
 out:∀(i:Nat) (n:No),d.out[i]?=some n→n.site=d.site∧n.number=atI d.seen d.site.toNat-d.out.length+1+i
 last:Qdv d<d.clock
 clock:1≤d.clock∧d.clock≤10001
theorem Qt0 {p:List Stp} (h:p≠[]) (k:Int):Qbq (Qb6 p k)=Qbq p:=by
 obtain⟨q,s,rfl⟩:=Qf7 h;rw[Qbk,Qkw,Qkw]
theorem Qqf {site:Int} {m:Mk} (h:m.1≠[]) (k:Int):Qgu site (Qar m k)=if Qbq m.1=site then m.2+k else 0:=by
 unfold Qgu Qar;simp only;rw[Qt0 h]
theorem Qkn {d:De} (h:Qat d=0):∃n:Nat,1≤n∧n≤60∧Qhv d=(n:Int)-1∧Qbl d=Qbr (Qhu d) n∧Qaf (Qhu d)=0∧Qaf (Qar (Qhu d) (Qhv d))=0:=by
 by_cases h1:d.kind=1
 ·have hr:=(Qge h h1).1;have hM:Qaf d.run.1=0∧1≤d.run.2.length∧d.run.2.length≤60∧(Qb9 d.run.1 ((d.run.2.length:Int)-1)).2=0:=by
   unfold Qbd at hr;by_cases g1:Qaf d.run.1=0
   ·rw[if_neg (by simpa using g1)] at hr;by_cases g2:d.run.2=[]
    ·rw[if_pos g2] at hr;cases hr
    ·rw[if_neg g2] at hr;by_cases g3:60<d.run.2.length
     ·rw[if_pos g3] at hr;cases hr
     ·rw[if_neg g3] at hr;by_cases g4:Qbj d.run.2=false
      ·rw[if_pos g4] at hr;cases hr
      ·rw[if_neg g4] at hr;exact⟨g1,List.length_pos_iff.2 g2,oM,hr⟩
   ·rw[if_pos g1] at hr;exact absurd hr g1
  obtain⟨g1,g2,g3,g4⟩:=hM;refine⟨d.run.2.length,g2,g3,?_,?_,?_,?_⟩
  ·unfold Qhv;rw[if_pos h1]
  ·unfold Qbl Qhu;rw[if_pos h1,if_pos h1]
  ·unfold Qhu;rw[if_pos h1];exact g1
  ·unfold Qhu Qhv;rw[if_pos h1,if_pos h1];exact(nextM_ok.1 g4).2.2.2
 ·obtain⟨_,g1,⟨n,hn,hn1,hn2⟩,_,_,g4⟩:=Qfx h h1;refine⟨n,hn1,hn2,?_,?_,?_,?_⟩
  ·unfold Qhv;rw[if_neg h1,hn]
  ·unfold Qbl Qhu;rw[if_neg h1,if_neg h1,hn];rfl
  ·unfold Qhu;rw[if_neg h1];exact g1
  ·unfold Qhu Qhv;rw[if_neg h1,if_neg h1];exact(nextM_ok.1 g4).2.2.2
theorem Ql1 {site:Int} {d:De} (h:Qat d=0) {m:Mk} (hm:m∈Qbl d):Qgu site m≤Qps site d:=by
 obtain⟨n,n1,n2,e1,e2,g1,g2⟩:=Qkn h;rw[e2] at hm;unfold Qbr at hm;obtain⟨i,hi,rfl⟩:=List.mem_map.1 hm;rw[List.mem_range] at hi;have hne:=(checkM_ok.1 g1).2.1;unfold Qps;rw[Qqf hne,Qqf hne,e1];split<;>omega
theorem Qvo {site:Int} {d:De} (h:Qat d=0):∃m∈Qbl d,Qps site d=Qgu site m:=by
 obtain⟨n,n1,n2,e1,e2,g1,g2⟩:=Qkn h;refine⟨Qar (Qhu d) (Qhv d),?_,rfl⟩;rw[e2,e1];unfold Qbr;exact List.mem_map.2 ⟨n-1,List.mem_range.2 oM,by congr 1;omega⟩
theorem Q1p {site:Int} {d:De} (h:Qat d=0):0≤Qps site d∧Qps site d≤10000:=by
 obtain⟨n,n1,n2,e1,e2,g1,g2⟩:=Qkn h;have h2:=checkM_ok.1 g2;unfold Qps Qgu;split<;>omega
theorem Q5h {site:Int} {d:De} (h:Qat d=0):Qik (Qgu site) 0 (Qbl d)=Qps site d:=by
 obtain⟨m,hm,e⟩:=Qvo (site:=site) h;have h1:Qik (Qgu site) 0 (Qbl d)≤Qps site d:=(Qil _ _ _ _).2 ⟨(Q1p h).1,fun x hx=>Ql1 h hx⟩;have h2:=((Qil (Qgu site) (Qbl d) 0 _).1 (Int.le_refl _)).2 m hm;omega
theorem clkN_le {site:Int} {l:List De} {c:Int}:Qhz site l≤c↔0≤c∧∀d∈l,Qps site d≤c:=Qil _ _ _ _
theorem lastK_le {d:Dk} {c:Int}:Qdv d≤c↔0≤c∧(∀a∈d.state.1,Qgu d.site a.1≤c)∧(∀m∈d.state.2,Qgu d.site m≤c)∧(∀n∈d.waits,Qhz d.site n.deeds≤c)∧∀n∈d.out,Qhz d.site n.deeds≤c:=by
 unfold Qdv Qoi Qrx Qrw;rw[Qil,Qil,Qil];constructor
 ·rintro⟨⟨⟨h1,h2⟩,h3⟩,h4⟩;exact⟨h1,h2,h3,fun n hn=>h4 n (List.mem_append_left _ hn),fun n hn=>h4 n (List.mem_append_right _ hn)⟩
 ·rintro⟨h1,h2,h3,h4,h5⟩;refine⟨⟨⟨h1,h2⟩,h3⟩,fun n hn=> ?_⟩;rcases List.mem_append.1 hn with hn|hn
  ·exact h4 n hn
  ·exact h5 n hn
theorem Qyv {s t:St} {l:List De} (hs:Qpy s) (hd:∀d∈l,Qat d=0) (h:Qfc s l=some t) {m:Mk} (hm:Qel t.1 m=true):Qel s.1 m=true∨∃d∈l,m∈Qbl d:=by
 have hE:Qne s l=0:=allE_ok.2 ⟨hs,hd,by rw[h];simp⟩;have hV:Qrn s l=t:=by unfold Qrn;rw[if_pos hE,h];rfl
 rcases Q47 hE (m:=m) (by rw[hV];exact hm) with h1|⟨d,h1,_,h2⟩
 ·exact .inl h1
 ·exact .inr ⟨d,h1,h2⟩
theorem Q1z {s t:St} {l:List De} (hs:Qpy s) (hd:∀d∈l,Qat d=0) (h:Qfc s l=some t) {m:Mk}:m∈t.2↔m∈s.2∨∃d∈l,d.kind≠1∧m∈Qbl d:=by
 rw[←hasG_iff,(Qol hs.1 hd h m).1,Bool.or_eq_true,hasG_iff,List.any_eq_true];constructor
 ·rintro(h1|⟨d,h1,h2⟩)
  ·exact .inl h1
  ·unfold Qrg at h2;rw[Bool.and_eq_true,hasG_iff] at h2;exact .inr ⟨d,h1,by simpa using h2.1,h2.2⟩
 ·rintro(h1|⟨d,h1,h2,h3⟩)
  ·exact .inl h1
  ·refine .inr ⟨d,h1,?_⟩;unfold Qrg;rw[Bool.and_eq_true,hasG_iff];exact⟨by simpa using h2,h3⟩
theorem Qqk {s t:St} {l:List De} {site c:Int} (hs:Qpy s) (hd:∀d∈l,Qat d=0) (h:Qfc s l=some t) (h1:∀a∈s.1,Qgu site a.1≤c) (h2:∀m∈s.2,Qgu site m≤c) (h3:Qhz site l≤c):
  (∀a∈t.1,Qgu site a.1≤c)∧∀m∈t.2,Qgu site m≤c:=by
 have h3':=(clkN_le.1 h3).2;constructor
 ·intro a ha;rcases Qyv hs hd h (m:=a.1) (hasM_iff.2 ⟨a,ha,rfl⟩) with k|⟨d,k1,k2⟩
  ·obtain⟨b,hb,e⟩:=hasM_iff.1 k;rw[←e];exact h1 b hb
  ·exact Int.le_trans (Ql1 (hd d k1) k2) (h3' d k1)
 ·intro m hm;rcases(Q1z hs hd h).1 hm with k|⟨d,k1,_,k2⟩
  ·exact h2 m k
  ·exact Int.le_trans (Ql1 (hd d k1) k2) (h3' d k1)
theorem Q7g {n:Int} (h:0≤n∧n≤4):n.toNat<5:=oM
theorem Qsx {a b:Int} (h:0≤a) (k:0≤b) (e:a.toNat=b.toNat):a=b:=oM
theorem Q5u {d:Dk} {i:Nat} {x:No} {t:St} (hm:MidK d) (hr:Qb5 d.seen x=true) (hx:d.waits[i]?=some x) (ht:Qfc d.state x.deeds=some t):MidK (Ql6 d i x t):=by
 have hxm:=List.mem_of_getElem? hx;have hN:=checkN_right.1 (hm.nw x hxm);obtain⟨hxs,hxn,hxa⟩:=hm.waits x hxm;obtain⟨r1,r2⟩:=readyB_iff.1 hr;obtain⟨hl5,h5⟩:=checkI_iff.1 hm.seen;have hx5:=Q7g hN.site;have hd5:=Q7g hm.site;have hne:¬x.site.toNat=d.site.toNat:=fun e=>hxs (Qsx hN.site.1 hm.site.1 e)
 have hb:∀j,atI (Qd3 d.seen x.site.toNat) j=if x.site.toNat=j then atI d.seen j+1 else atI d.seen j:=Q1j oM
 have hown:atI (Qd3 d.seen x.site.toNat) d.site.toNat=atI d.seen d.site.toNat:=by rw[hb,if_neg hne]
 have hlast:=hm.last;have hL:=lastK_le.1 (show Qdv d≤d.clock-1 by omega);obtain⟨l1,l2,l3,l4,l5⟩:=hL;obtain⟨c1,c2⟩:=Qqk hm.state hN.deeds ht l2 l3 (l4 x hxm);refine⟨hm.site,Qko hm.state hN.deeds ht,?_,hm.lo,fun n hn=>hm.nw n (Qin hn),hm.no,Qsy hm.sorted i,fun n hn=> ?_,fun j n hj=> ?_,?_,hm.clock⟩
 ·refine checkI_iff.2 ⟨by show(Qd3 _ _).length=5;rw[Qw7,hl5],fun j hj=> ?_⟩
  show 0≤atI (Qd3 d.seen x.site.toNat) j∧atI (Qd3 d.seen x.site.toNat) j≤500
  rw[hb];have:=h5 j hj;have:=hN.number;split
  ·rename_i e
   subst e;omega
  ·exact h5 j hj
 ·have hnm:=Qin hn;obtain⟨w1,w2,w3⟩:=hm.waits n hnm;refine⟨w1,?_,?_⟩
  ·show atI (Qd3 d.seen x.site.toNat) n.site.toNat<n.number
   rw[hb];split
   ·rename_i e
    have hsn:=(checkN_right.1 (hm.nw n hnm)).site;have es:=Qsx hN.site.1 hsn.1 e;have hz:=Q5y hm.sorted hx hn;have:n.number≠x.number:=fun e2=>hz (ordN_zero.2 ⟨es.symm,e2⟩)
    rw[←e] at w2;rw[←e];omega
   ·exact w2
  ·show atI n.needs d.site.toNat≤atI (Qd3 d.seen x.site.toNat) d.site.toNat
   rw[hown];exact w3
 ·show n.site=d.site∧n.number=atI (Qd3 d.seen x.site.toNat) d.site.toNat-d.out.length+1+j
  rw[hown];exact hm.out j n hj
 ·have:Qdv (Ql6 d i x t)≤d.clock-1:=lastK_le.2 ⟨l1,c1,c2,fun n hn=>l4 n (Qin hn),l5⟩
  show Qdv (Ql6 d i x t)<d.clock
  omega
theorem Q9t (a b:Int):a≤Qk4 a b∧b≤Qk4 a b:=maxI_le.1 (Int.le_refl _)
theorem oldK_false {d:Dk} {n:No}:Qva d n=false↔n.site≠d.site∧atI d.seen n.site.toNat<n.number∧Qu8 d.waits n=false:=by
 unfold Qva;rw[Bool.or_eq_false_iff,Bool.or_eq_false_iff,decide_eq_false_iff_not,Int.not_le,beq_eq_false_iff_ne,and_assoc]
theorem Qvp {site:Int} {l:List De} (h:∀d∈l,Qat d=0):0≤Qhz site l∧Qhz site l≤10000:=by
 refine⟨?_,clkN_le.2 ⟨oM,fun d hd=>(Q1p (h d hd)).2⟩⟩;exact(clkN_le.1 (Int.le_refl (Qhz site l))).1
theorem add_mid {d:Dk} {n:No} (h:RightK d) (hn:Qa0 n=0) (ho:Qva d n=false) (ha:Qfq d n=false):MidK (Q4y d n):=by
 obtain⟨o1,o2,o3⟩:=oldK_false.1 ho;have hN:=checkN_right.1 hn;have ha':atI n.needs d.site.toNat≤atI d.seen d.site.toNat:=by
  unfold Qfq at ha;simpa using ha
 have hlast:=h.last;obtain⟨l1,l2,l3,l4,l5⟩:=lastK_le.1 (show Qdv d≤d.clock-1 by omega);have hc:=Qvp (site:=d.site) hN.deeds;have hg:=Q9t d.clock (1+Qhz d.site n.deeds);have hcl:=h.clock;have hup:Qk4 d.clock (1+Qhz d.site n.deeds)≤10001:=maxI_le.2 ⟨oM,oM⟩;refine⟨h.site,h.state,h.seen,h.lo,fun x hx=> ?_,h.no,Qot h.sorted o3,fun x hx=> ?_,h.out,?_,?_⟩
 ·rcases mem_insN.1 hx with rfl|hx
  ·exact hn
  ·exact h.nw x hx
 ·rcases mem_insN.1 hx with rfl|hx
  ·exact⟨o1,o2,ha'⟩
  ·obtain⟨k1,k2,k3,_⟩:=h.waits x hx;exact⟨k1,k2,k3⟩
 ·have:Qdv (Q4y d n)≤Qk4 d.clock (1+Qhz d.site n.deeds)-1:=by
   refine lastK_le.2 ⟨oM,fun a ha=> ?_,fun m hm=> ?_,fun x hx=> ?_,fun x hx=> ?_⟩
   ·have:=l2 a ha
    show Qgu d.site a.1≤_
    omega
   ·have:=l3 m hm
    show Qgu d.site m≤_
    omega
   ·show Qhz d.site x.deeds≤_
    rcases mem_insN.1 hx with rfl|hx
    ·omega
    ·have:=l4 x hx;omega
   ·have:=l5 x hx
    show Qhz d.site x.deeds≤_
    omega
  show Qdv (Q4y d n)<Qk4 d.clock (1+Qhz d.site n.deeds)
  omega
 ·show 1≤Qk4 d.clock (1+Qhz d.site n.deeds)∧Qk4 d.clock (1+Qhz d.site n.deeds)≤10001
  omega
end Go.Proofs.YtgnccjojfebkeaaGreat
namespace Go.Proofs.YtgnccjojfebkeaaGreat
open Go Go.RowKit Go.BigFrame Cp
theorem Qp5:(Tryz.prog.info? 129).map (fun i=>(i.zero,i.size,i.bytes))=some (some (.agg #[.slice none 0 0,.int .i64 0,.int .u8 0]),3,40):=kR
theorem Qrr {F:Nat→Prop} {W:World} {r:Nat} {v:Value} {p:List Stp} {c:Int} {s:UInt8} (h:RSl Qdt 2 F W v p) (i:I64 c) (z0:W.cell? ⟨r,0,none⟩=some v) (z1:W.cell? ⟨r,1,none⟩=some (.int .i64 c)) (z2:W.cell? ⟨r,2,none⟩=some (.int .u8 s.toNat))
  (hF:F r) (hr:r<W.heap.size):RSl RAt 3 F W (.slice (some ⟨r,0,none⟩) 1 1) [((p,c),s)]:=
 Qbe (Qfi z0 z1 z2) (Qbg (x:=((p,c),s)) rfl ⟨_,rfl,h,i⟩) hF hr (Nat.le_refl _) mO
theorem Qw8 {F:Nat→Prop} {w:World} {v:Value} {c:Int} {m:Mk} (h:RMk F w [v,.int .i64 c] m):RSl Qdt 2 F w v m.1:=by
 obtain⟨v',e,h1,_⟩:=h;injection e with e1 e2
 subst e1;exact h1
theorem Qfs {a:Nat} (h:a≤1000):a+1≤maxLen:=Nat.le_trans (by omega:a+1≤1001) (by unfold maxLen;decide)
theorem Qn4 {a:Nat} (h:a≤1000):(a+1) * 40≤140737488355328:=oM
def Q7x (l:List At) (w:World) (e:Ending) (w':World):Prop:=∃v,e= .returned v∧OSl RAt 3 129 w.heap.size (fun j=>w.heap.size≤j) w' v l∧Ext w w'
theorem Quz {α:Type} {l:List α} {k:Nat} {a:α} (h:l[k]?=some a):l.take (k+1)=l.take k++[a]:=by
 obtain⟨h1,h2⟩:=List.getElem?_eq_some_iff.1 h;rw[List.take_succ_eq_append_getElem h1,h2]
theorem Qip {F:Nat→Prop} {w:World} {v:Value} {l:List At} (h:RSl RAt 3 F w v l) (hl:l.length≤1000) (hm:∀a∈l,a.1.1.length≤8000000000000):
  Calls Tryz.prog 193 #[v] w (Q7x l w):=by
 have HM:=hH hm;have HL:=hH (fun(W:World) (hx:Ext w W)=>h.ext gAt hx);obtain⟨a0,n0,c0,rfl⟩:=h.slice;obtain⟨rfl,_,_⟩:=h.len;obtain⟨i0,hi0,hz0,hz1',hz2⟩:=info_parts Qp5;have HJ:=hH hi0;have HZ0:=hH hz0;have HZ1:=hH hz1';have HZ2:=hH hz2;clear h hm hi0 hz0 hz1' hz2;go_enter Tryz.func193,Tryz.ntmps193;go_wp2
 go_loopw [3,8] (fun ov iv wr=>∃k:Nat,k≤l.length∧iv= .int .i64 k∧Hid (OSl RAt 3 129 w.heap.size (fun j=>w.heap.size≤j) wr ov (l.take k))∧Ext w wr) (fun _ iv _=>l.length-(intOf iv).toNat)
 case atStart=>exact⟨0,Nat.zero_le _,rfl,hH Qbn,ext_refl _⟩
 case round=>
  obtain⟨k,hk,rfl,HO,hx⟩:=hrel;have hzr:=hx.size;have HX:=hH hx;clear hx;obtain⟨a5,n5,c5,rfl⟩:=Qab HO.o;by_cases hlt:k<l.length
  ·obtain⟨b,o,p,d,s,ap,cp,rfl,hb,ek,ick,hpp,y0,y1,y2⟩:=Qcd (HL.o wr HX.o) hlt;have HOW:=hH (fun(W:World) (hx:Ext wr W)=>Qmb (Qam (hpp.ext Qap hx) ick) (HM.o _ (List.mem_of_getElem? ek)));have HIC:=hH ick;have HEK:=hH (Quz ek);have HOL:=hH (Qak HO.o);have hfl:(l.take k).length≤1000:=by rw[List.length_take];omega
   have hn1:¬b=wr.heap.size:=oM;generalize l.take k=fl at *;clear ek ick hpp;go_wp2_with fail
   refine Qad (fun W1 eW1=> ?_);obtain⟨e0,e1,e2⟩:=rR3 eW1 wr.heap.size (.slice ap p.length cp) (.int .i64 d) (.int .u8 s.toNat);have zW1_0:=zE eW1 wr.heap.size;have hw1:=xE wr eW1;clear eW1;have hzw:=hw1.size;go_region_held3 (fun W=>W.cell? ⟨wr.heap.size,0,none⟩=some (.slice ap p.length cp)∧W.cell? ⟨wr.heap.size,1,none⟩=some (.int .i64 d)∧W.cell? ⟨wr.heap.size,2,none⟩=some (.int .u8 s.toNat))
    (first|go_keep|(refine⟨?_,?_,?_⟩<;>assumption)|(refine⟨?_,?_,?_⟩<;>(rw[hx9.cells _ _ ltA];first|(with_reducible assumption)|go_simp)))
    (first
     |(go_at_call 194;go_must ((with_reducible refine(HOW.o _ Qac).mono ?_);rintro e w2 ⟨cs2,rfl,hm2,hx2⟩;have HM2:=hH (Qem hm2);obtain⟨v2,rfl,hv2,_⟩:=hm2;obtain⟨a2,n2,c2,rfl⟩:=Qab hv2;clear hv2;have hz2:=hx2.size;(try simp at hz2);have hb2:=zL hx2 wr.heap.size;obtain⟨q0,q1,q2⟩:=cC3 hx2 (wr.heap.size) (.slice ap p.length cp) (.int .i64 d) (.int .u8 s.toNat)))
     |((refine Qa7 gAt rfl (.tmp 12) (.tmp 19) 39 rfl w.heap.size 129 i0 _ 3 40 Tryz.underlying39 HJ.o HZ0.o HZ1.o HZ2.o rfl oM (F:=fun j=>w.heap.size≤j) (G:=fun j=>wr.heap.size≤j) (.slice a5 n5 c5) fl rfl (Qai gAt HO.o Qac) (.slice (some ⟨w2.heap.size,0,none⟩) 1 1) [((p,d),s)] rfl (Qrr (RSl.more Qap (fun j hj _=>(show wr.heap.size≤j by first|omega|(simp at hj;omega))) ((Qw8 HM2.o).ext Qap Qac)) HIC.o asG (by first|assumption|(go_simp<;>rfl)) asG ltA ltA) Qe7 (fun j hj _=>⟨(show w.heap.size≤j by omega),fun e=>by have:=HOL.o j e.symm;omega⟩) (Qfs hfl) (Qn4 hfl) ltA ?_);intro v9 w9 hown9 hg9 hat9;have hx9:Ext w w9:=Qao (ext_trans HX.o Qac) hg9 (fun j hj=>(HOL.o j hj).1);have r0:=hg9.cell (a:=⟨wr.heap.size,0,none⟩) (v:= .slice ap p.length cp) asG (fun e=>absurd (HOL.o _ e.symm).2 (Nat.lt_irrefl _));have r1:=hg9.cell (a:=⟨wr.heap.size,1,none⟩) (v:= .int .i64 d) asG (fun e=>absurd (HOL.o _ e.symm).2 (Nat.lt_irrefl _));have r2:=hg9.cell (a:=⟨wr.heap.size,2,none⟩) (v:= .int .u8 s.toNat) asG (fun e=>absurd (HOL.o _ e.symm).2 (Nat.lt_irrefl _))))
   all_goals
    have HN:=hH (show OSl RAt 3 129 w.heap.size (fun j=>w.heap.size≤j) w9 v9 (l.take (k+1)) by rw[HEK.o];exact hown9);clear hown9 hg9 hat9;go_wp2_with fail
    go_roundw
    case rel=>exact⟨k+1,oM,by go_num,HN,hx9⟩
    case measure=>simp[intOf];omega
  ·have hkl:k=l.length:=oM;subst hkl;have HF:=hH (show OSl RAt 3 129 w.heap.size (fun j=>w.heap.size≤j) wr (.slice a5 n5 c5) l by have:=HO.o;rwa [List.take_of_length_le (Nat.le_refl _)] at this);go_wp2
   go_ret;exact⟨_,rfl,HF.o,HX.o⟩
theorem Ql3:(Tryz.prog.info? 103).map (fun i=>(i.zero,i.size,i.bytes))=some (some (.agg #[.slice none 0 0,.int .i64 0]),2,32):=kR
theorem Qkj {F:Nat→Prop} {W:World} {r:Nat} {v:Value} {p:List Stp} {c:Int} (h:RSl Qdt 2 F W v p) (i:I64 c) (z0:W.cell? ⟨r,0,none⟩=some v) (z1:W.cell? ⟨r,1,none⟩=some (.int .i64 c))
  (hF:F r) (hr:r<W.heap.size):RSl RMk 2 F W (.slice (some ⟨r,0,none⟩) 1 1) [(p,c)]:=
 Qbe (Qlf z0 z1) (Qbg (x:=(p,c)) rfl ⟨_,rfl,h,i⟩) hF hr (Nat.le_refl _) mO
theorem Qia {a:Nat} (h:a≤1000):(a+1) * 32≤140737488355328:=oM
theorem Qc8 {α:Type} {R:Rd α} (g:Cp.Good R) {sz e base:Nat} {F G:Nat→Prop} {w:World} {v:Value} {l:List α} (h:OSl R sz e base F w v l) (hG:∀k,F k→k<w.heap.size→some k≠v.ownBlock→G k):OSl R sz e base G w v l:=by
 obtain⟨xs,h1,h2⟩:=h;exact⟨xs,h1,Qb7 g (fun k hk hl=>⟨hG k hk.1 hl hk.2,hk.2⟩) h2⟩
def Va0 (s:St) (w:World) (e:Ending) (w':World):Prop:=∃v u,e= .returned (.agg #[v,u])∧OSl RAt 3 129 w.heap.size (fun j=>w.heap.size≤j∧some j≠u.ownBlock) w' v s.1∧
 OSl RMk 2 103 w.heap.size (fun j=>w.heap.size≤j∧some j≠v.ownBlock) w' u s.2∧(∀j,v.ownBlock=some j→u.ownBlock≠some j)∧Ext w w'
theorem Qm0 {F:Nat→Prop} {w:World} {cs:List Value} {s:St} (h:RSt F w cs s) (hl:s.1.length≤1000) (hg:s.2.length≤1000) (hml:∀a∈s.1,a.1.1.length≤8000000000000) (hmg:∀m∈s.2,m.1.length≤8000000000000):
  Calls Tryz.prog 153 #[.agg cs.toArray] w (Va0 s w):=by
 obtain⟨v,u,rfl,h1,h2⟩:=h;obtain⟨l,g⟩:=s;simp only at h1 h2 hl hg hml hmg ⊢;have HM:=hH hmg;have HOA:=hH (fun(W:World) (hx:Ext w W)=>Qip (h1.ext gAt hx) hl hml);have HL:=hH (fun(W:World) (hx:Ext w W)=>h2.ext gMk hx);obtain⟨a0,n0,c0,rfl⟩:=h1.slice;obtain⟨a1,n1,c1,rfl⟩:=h2.slice;obtain rfl:n1=g.length:=h2.len.1;obtain⟨i0,hi0,hz0,hz1',hz2⟩:=info_parts Ql3;have HJ:=hH hi0;have HZ0:=hH hz0;have HZ1:=hH hz1';have HZ2:=hH hz2;clear h1 h2 hml hmg hi0 hz0 hz1' hz2;go_enter Tryz.func153,Tryz.ntmps153;go_wp2_with (go_at_call 193;go_must ((with_reducible refine(HOA.o _ Qac).mono ?_);rintro e w1 ⟨v1,rfl,hv1,hx1⟩;obtain⟨a2,n2,c2,rfl⟩:=Qab hv1;have hz1:=hx1.size;(try simp at hz1);obtain⟨hb1,hb2⟩:=zL2 hx1 w.heap.size;obtain⟨q0,q1⟩:=cC2 hx1 (w.heap.size) (.slice a0 n0 c0) (.slice a1 g.length c1);obtain⟨q2,q3⟩:=cC2 hx1 (w.heap.size+1) (.slice none 0 0) (.slice none 0 0);have qf0:=fL hx1 (w.heap.size+1) (0);have qf1:=fL hx1 (w.heap.size+1) (1)))
 refine Qad (fun wb ewb=> ?_);obtain⟨b0,b1⟩:=rR2 ewb w1.heap.size (.slice a2 n2 c2) (.slice none 0 0);have f0:wb.frozen? ⟨w1.heap.size,0,none⟩=false:=by rw[ewb];go_simp
 have f1:wb.frozen? ⟨w1.heap.size,1,none⟩=false:=by rw[ewb];go_simp
 obtain⟨d0,d1⟩:=rR2 ewb (w.heap.size+1) (.slice none 0 0) (.slice none 0 0);have e0:wb.frozen? ⟨w.heap.size+1,0,none⟩=false:=by rw[ewb];go_simp
 have e1:wb.frozen? ⟨w.heap.size+1,1,none⟩=false:=by rw[ewb];go_simp
 have hsb:wb.heap.size=w1.heap.size+1:=by rw[ewb];simp
 have hwb:=xE w ewb;have HWB:=hH hwb;have hv1':OSl RAt 3 129 (w.heap.size+1+1) (fun j=>w.heap.size+1+1≤j) w1 (.slice a2 n2 c2) l:=by simpa using hv1
 have HV1:=hH (show OSl RAt 3 129 (w.heap.size+1+1) (fun j=>w.heap.size+1+1≤j∧j<w1.heap.size) wb (.slice a2 n2 c2) l by rw[ewb];exact Qai gAt (Qc8 gAt hv1' (fun k hk hlt _=>⟨hk,hlt⟩)) Qac);have HB1:=hH (Qak hv1');clear hv1';clear ewb hwb hv1 hx1;have HKB:=hH (show Keeps (fun j=>j<wb.heap.size∧j≠w1.heap.size) wb wb from Qag);go_loopw [13] (fun iv wr=>∃(k:Nat) (a5:Option Addr) (n5 c5:Nat),k≤g.length∧iv= .int .i64 k∧wr.cell? ⟨w1.heap.size,1,none⟩=some (.slice a5 n5 c5)∧wr.frozen? ⟨w1.heap.size,1,none⟩=false∧wr.cell? ⟨w1.heap.size,0,none⟩=some (.slice a2 n2 c2)∧
  Hid (OSl RMk 2 103 (w1.heap.size+1) (fun j=>w1.heap.size+1≤j) wr (.slice a5 n5 c5) (g.take k))∧Hid (Keeps (fun j=>j<wb.heap.size∧j≠w1.heap.size) wb wr)∧Ext w wr) (fun iv _=>g.length-(intOf iv).toNat)
 case atStart=>exact⟨0,none,0,0,Nat.zero_le _,rfl,b1,f1,b0,hH Qbn,HKB,HWB.o⟩
 case round=>
  obtain⟨k,a5,n5,c5,hk,rfl,x1,xf,x0,HO,HK,hx⟩:=hrel;have hzr:=HK.o.size;have HX:=hH hx;have HOL:=hH (Qak HO.o);clear hx b0 b1 f0 f1;by_cases hlt:k<g.length
  ·obtain⟨b,o,p,d,ap,cp,rfl,hb,ek,ick,hpp,y0,y1⟩:=Qc7 (HL.o wr HX.o) hlt;have HOW:=hH (fun(W:World) (hx:Ext wr W)=>Qmb (Qam (hpp.ext Qap hx) ick) (HM.o _ (List.mem_of_getElem? ek)));have HIC:=hH ick;have HEK:=hH (Quz ek);have hfl:(g.take k).length≤1000:=by rw[List.length_take];omega
   generalize g.take k=fl at *;have hn1:¬w1.heap.size=wr.heap.size:=oM;have hn2:¬b=wr.heap.size:=oM;have hn3:w1.heap.size<wr.heap.size:=oM;clear ek ick hpp d0 d1 e0 e1;go_wp2_with fail
   go_region_law (first
    |((refine Qa7 gMk rfl (.tmp 18) (.tmp 21) 40 rfl (w1.heap.size+1) 103 i0 _ 2 32 Tryz.underlying40 HJ.o HZ0.o HZ1.o HZ2.o rfl oM (F:=fun j=>w1.heap.size+1≤j) (G:=fun j=>wr.heap.size≤j) (.slice a5 n5 c5) fl rfl (Qai gMk HO.o Qac) (.slice (some ⟨w2.heap.size,0,none⟩) 1 1) [(p,d)] rfl (Qkj (RSl.more Qap (fun j hj _=>(show wr.heap.size≤j by first|omega|(simp at hj;omega))) ((Qw8 HM2.o).ext Qap Qac)) HIC.o asG (by first|assumption|(go_simp<;>rfl)) ltA ltA) Qf1 (fun j hj _=>⟨(show w1.heap.size+1≤j by omega),fun e=>by have:=HOL.o j e.symm;omega⟩) (Qfs hfl) (Qia hfl) ltA ?_);intro v9 w9 hown9 hg9 hat9;obtain⟨a9,n9,c9,rfl⟩:=Qab hown9;have hx9:Ext w w9:=Qao (ext_trans HX.o Qac) hg9 (fun j hj=>by have:=(HOL.o j hj).1;omega);have hbO:=hg9.block w1.heap.size ltA (fun e=>by have:=(HOL.o _ e.symm).1;omega);have r1:=(World.cell?_of_block (a:=⟨w1.heap.size,1,none⟩) hbO).trans (show _=some (.slice a5 n5 c5) by first|(with_reducible assumption)|go_simp);have r0:=(World.cell?_of_block (a:=⟨w1.heap.size,0,none⟩) hbO).trans (show _=some (.slice a2 n2 c2) by first|(with_reducible assumption)|go_simp);have rf:=(World.frozen?_of_block (a:=⟨w1.heap.size,1,none⟩) hbO).trans (show _=false by first|(with_reducible assumption)|go_simp);have HK9:=hH (Keeps.trans (Qdq HK.o Qac) ⟨hg9.size,fun j hj hlt=>hg9.block j hlt (fun e=>by have:=(HOL.o _ e.symm).1;omega)⟩);have HN9:=hH hown9;clear hown9 hg9 hat9)
    |(go_simp;go_at_call 194;go_must ((with_reducible refine(HOW.o _ Qac).mono ?_);rintro e w2 ⟨cs2,rfl,hm2,hx2⟩;have HM2:=hH (Qem hm2);obtain⟨v2,rfl,hv2,_⟩:=hm2;obtain⟨a3,n3,c3,rfl⟩:=Qab hv2;clear hv2;have hz2:=hx2.size;(try simp at hz2);have hb2:=zL hx2 wr.heap.size;have hn8:¬w1.heap.size=w2.heap.size:=oM;have hb3:w1.heap.size<w2.heap.size:=oM;obtain⟨q0,q1⟩:=cC2 hx2 (w1.heap.size) (.slice a2 n2 c2) (.slice a5 n5 c5);obtain⟨q2,q3⟩:=cC2 hx2 (wr.heap.size) (.slice ap p.length cp) (.int .i64 d);have qf0:=fL hx2 (w1.heap.size) (1))))
   all_goals
    go_wp2_with fail
    go_roundw
    case rel=>
     exact⟨k+1,a9,n9,c9,oM,by go_num,gS,gS,gS,
      hH (Qa8 gMk (w:=w9) (by rw[HEK.o];exact HN9.o) (Qae Qag (fun _ h=>by
       rcases h with h|h
       ·have h':w1.heap.size+1≤w1.heap.size:=h;omega
       ·have h':w1.heap.size+1≤w1.heap.size:=(Qak HN9.o _ h.symm).1;omega) _)),hH (Qae HK9.o (fun _ h=>h.2 rfl) _),ext_set hx9 (by show w.heap.size≤w1.heap.size;omega) _⟩
    case measure=>simp[intOf];omega
  ·obtain rfl:k=g.length:=oM;have HF:=hH (show OSl RMk 2 103 (w1.heap.size+1) (fun j=>w1.heap.size+1≤j) wr (.slice a5 n5 c5) g by have:=HO.o;rwa [List.take_of_length_le (Nat.le_refl _)] at this);have k0:=World.cell?_of_block (a:=⟨w.heap.size+1,0,none⟩) (HK.o.block (w.heap.size+1) ⟨oM,oM⟩ oM);have k1:=World.cell?_of_block (a:=⟨w.heap.size+1,1,none⟩) (HK.o.block (w.heap.size+1) ⟨oM,oM⟩ oM);have g0:=(World.frozen?_of_block (a:=⟨w.heap.size+1,0,none⟩) (HK.o.block (w.heap.size+1) ⟨oM,oM⟩ oM)).trans e0;have g1:=(World.frozen?_of_block (a:=⟨w.heap.size+1,1,none⟩) (HK.o.block (w.heap.size+1) ⟨oM,oM⟩ oM)).trans e1;rw[d0] at k0;rw[d1] at k1;have hn5:¬w1.heap.size=w.heap.size+1:=oM;have hn6:¬w.heap.size+1=w1.heap.size:=oM;clear d0 d1 e0 e1;go_wp2
   refine bodyPost_ret (v:= .agg #[.slice a2 n2 c2,.slice a5 n5 c5]) (by simp[results,Tryz.results153,go_sem,k0,k1]) rfl ⟨_,_,rfl,?_,?_,?_,?_⟩
   ·refine Qc8 gAt (Qcx oM (Qa8 gAt HV1.o (Qae (Qae (HK.o.weaken (fun j hj h=> ?_)) (fun _ h=> ?_) _) (fun _ h=> ?_) _))) (fun j hj hlt hn=>⟨oM,fun e=> ?_⟩)
    ·rcases h with h|h
     ·exact⟨hj,oM⟩
     ·have:=(HB1.o j h.symm).2;exact⟨hj,oM⟩
    ·rcases h with h|h
     ·have h':w.heap.size+1+1≤w.heap.size+1∧w.heap.size+1<w1.heap.size:=h;omega
     ·have h':w.heap.size+1+1≤w.heap.size+1:=(HB1.o _ h.symm).1;omega
    ·rcases h with h|h
     ·have h':w.heap.size+1+1≤w.heap.size+1∧w.heap.size+1<w1.heap.size:=h;omega
     ·have h':w.heap.size+1+1≤w.heap.size+1:=(HB1.o _ h.symm).1;omega
    ·have:=(HOL.o j e.symm).1;omega
   ·refine Qc8 gMk (Qcx oM (Qa8 gMk HF.o (Qae (Qae Qag (fun _ h=> ?_) _) (fun _ h=> ?_) _))) (fun j hj hlt hn=>⟨oM,fun e=> ?_⟩)
    ·rcases h with h|h
     ·have h':w1.heap.size+1≤w.heap.size+1:=h;omega
     ·have h':w1.heap.size+1≤w.heap.size+1:=(HOL.o _ h.symm).1;omega
    ·rcases h with h|h
     ·have h':w1.heap.size+1≤w.heap.size+1:=h;omega
     ·have h':w1.heap.size+1≤w.heap.size+1:=(HOL.o _ h.symm).1;omega
    ·have:=(HB1.o j e.symm).2;omega
   ·exact fun j h1 h2=>by have:=(HB1.o j h1).2;have:=(HOL.o j h2).1;omega
   ·exact ext_set (ext_set HX.o (by show w.heap.size≤w.heap.size+1;omega) _) (by show w.heap.size≤w.heap.size+1;omega) _
end Go.Proofs.YtgnccjojfebkeaaGreat
namespace Go.Proofs.YtgnccjojfebkeaaGreat
open Go Go.RowKit Cp
def Qy2 (s:St) (l:List De):Int:=if Qax s≠0 then Qax s else Qce l
def Q0o (s:St) (l:List De) (k:Nat) (er:Int):Prop:=(er=0∧Qax s=0∧Qy2 s l=Qce (l.drop k))∨(er≠0∧Qy2 s l=er)
theorem Qvg (s:St) (l:List De):Q0o s l 0 (Qax s):=by
 by_cases h:Qax s=0
 ·exact .inl ⟨h,h,by unfold Qy2;rw[if_neg (by simpa using h),List.drop_zero]⟩
 ·exact .inr ⟨h,by unfold Qy2;rw[if_pos h]⟩
theorem Qyj {s:St} {l:List De} {k:Nat} {d:De} (h:Q0o s l k 0) (hd:l[k]?=some d):Q0o s l (k+1) (Qat d):=by
 rcases h with⟨_,h1,h2⟩|⟨h,_⟩
 ·by_cases h3:Qat d=0
  ·exact .inl ⟨h3,h1,by rw[h2,Qh8 hd h3]⟩
  ·exact .inr ⟨h3,by rw[h2,Qjx hd h3]⟩
 ·exact absurd rfl h
theorem Q0z {s:St} {l:List De} {k:Nat} {er:Int} (h:Q0o s l k er) (hk:l.length≤k∨er≠0):Qy2 s l=er:=by
 rcases h with⟨h0,_,h2⟩|⟨_,h⟩
 ·rcases hk with hk|hk
  ·rw[h2,Qjy hk,h0]
  ·exact absurd h0 hk
 ·exact h
theorem Q45 {s:St} {l:List De} (h:Qy2 s l≠0):Qne s l=Qy2 s l∧Qrn s l=([],[]):=by
 have e:Qne s l=Qy2 s l:=by
  unfold Qy2 at h ⊢;unfold Qne;by_cases h1:Qax s=0
  ·simp only[h1,ne_eq,not_true_eq_false,if_false] at h ⊢;rw[if_pos h]
  ·rw[if_pos h1,if_pos h1]
 refine⟨e,?_⟩;unfold Qrn;rw[e,if_neg h]
theorem Qrm {s:St} {l:List De} (h:Qy2 s l=0):Qpy s∧(∀d∈l,Qat d=0)∧(Qfc s l=none→Qne s l=2∧Qrn s l=([],[]))∧∀t,Qfc s l=some t→Qne s l=0∧Qrn s l=t:=by
 have h1:Qax s=0:=by
  by_cases h1:Qax s=0
  ·exact h1
  ·unfold Qy2 at h;rw[if_pos h1] at h;exact absurd h h1
 have h2:Qce l=0:=by unfold Qy2 at h;rwa [if_neg (by simpa using h1)] at h
 refine⟨checkS_fit.1 h1,checkDL_ok.1 h2,fun h3=> ?_,fun t h3=> ?_⟩
 ·have e:Qne s l=2:=by unfold Qne;rw[if_neg (by simpa using h1),if_neg (by simpa using h2),if_pos h3]
  exact⟨e,by unfold Qrn;rw[e];rfl⟩
 ·have e:Qne s l=0:=by unfold Qne;rw[if_neg (by simpa using h1),if_neg (by simpa using h2),if_neg (by rw[h3];simp)]
  exact⟨e,by unfold Qrn;rw[e,h3];rfl⟩
end Go.Proofs.YtgnccjojfebkeaaGreat
namespace Go.Proofs.YtgnccjojfebkeaaGreat
open Go Go.RowKit Go.BigFrame Cp
def Qeh (r:Rn) (a:At):Bool:=decide (r.2.length<60) && (Qau (Qar r.1 r.2.length) a.1==0)
theorem Q2s {F G:Nat→Prop} {w:World} {cs ds:List Value} {r:Rn} {a:At} (h:RRn F w cs r) (k:RAt G w ds a) (hc:Qaf r.1=0):
  Calls Tryz.prog 234 #[.agg cs.toArray,.agg ds.toArray] w fun e w'=>e= .returned (.bool (Qeh r a))∧Ext w w':=by
 obtain⟨v,u,rfl,hl,hi,hu⟩:=h;obtain⟨v2,rfl,hm,hj⟩:=k;obtain⟨⟨l,c⟩,t⟩:=r;obtain⟨⟨m,d⟩,x⟩:=a;simp only at hl hi hu hm hj hc;obtain⟨s,rfl,rfl,hs⟩:=Qby hu;have hsl:s.data.toList.length=s.size:=sI;have HAF:=hH (fun(hk:s.size<60) (W:World) (hx:Ext w W)=>Qh7 (k:=(s.size:Int)) (Qam (hl.ext Qap hx) hi) (Qcn hc) (Qew hc) (Qc6 hc) (Qbu hc) ⟨oM,oM⟩);have HM:=hH (fun(W:World) (hx:Ext w W)=>Qam (hm.ext Qap hx) hj);obtain⟨a1,n1,c1,rfl⟩:=hl.slice;obtain⟨a2,n2,c2,rfl⟩:=hm.slice;clear hl hm hu hc;by_cases h0:s.size<60
 ·have HB:=hH (show Qeh ((l,c),s.data.toList) ((m,d),x)=(Qau (Qar (l,c) (s.size:Int)) (m,d)==0) by unfold Qeh;rw[hsl,decide_eq_true h0];rfl);have HAK:=hH (HAF.o h0);have t0:decide ((s.size:Int)<60)=true:=decide_eq_true oM;have t1:decide (s.size<60)=true:=decide_eq_true h0;clear hsl HAF;go_enter Tryz.func234,Tryz.ntmps234;go_wp2_with fail
  go_region_held3 (fun W=>W.cell? ⟨w.heap.size,0,none⟩=some (.slice a1 n1 c1)∧W.cell? ⟨w.heap.size,1,none⟩=some (.int .i64 c)∧W.cell? ⟨w.heap.size,2,none⟩=some (.string s)∧W.cell? ⟨w.heap.size+1,0,none⟩=some (.slice a2 n2 c2)∧W.cell? ⟨w.heap.size+1,1,none⟩=some (.int .i64 d))
   (first|go_keep|(refine⟨?_,?_,?_,?_,?_⟩<;>(rw[hx3.cells _ _ ltA];first|(with_reducible assumption)|go_simp))|(refine⟨?_,?_,?_,?_,?_⟩<;>(rw[hx2.cells _ _ ltA];first|(with_reducible assumption)|go_simp)))
   (first
    |(go_at_call 199;go_must ((with_reducible refine(HAK.o _ Qac).mono ?_);rintro e w2 ⟨cs2,rfl,hm2,hx2⟩;have HM2:=hH (Qem hm2);obtain⟨v2,rfl,hv2,hi2⟩:=hm2;obtain⟨a3,n3,c3,rfl⟩:=Qab hv2;have hz2:=hx2.size;(try simp at hz2);have hb2:=zL hx2 w.heap.size;have hb2':w.heap.size+1<w2.heap.size:=oM;clear hv2 hi2))
    |(go_at_call 220;go_must ((with_reducible refine(Qf2 (gMk.ext HM2.o Qac) (HM.o _ Qac)).mono ?_);rintro e w3 ⟨rfl,hx3⟩;have hz3:=hx3.size;(try simp at hz3);have hb3:=zL hx3 w.heap.size;have hb3':w.heap.size+1<w3.heap.size:=oM)))
  all_goals go_wp2_with fail
  all_goals go_ret
  all_goals exact⟨rb HB.o.symm,Qac⟩
 ·have HB:=hH (show Qeh ((l,c),s.data.toList) ((m,d),x)=false by unfold Qeh;rw[hsl,decide_eq_false h0];rfl);have t0:decide ((s.size:Int)<60)=false:=decide_eq_false oM;have t1:decide (s.size<60)=false:=decide_eq_false h0;clear hsl HAF;go_enter Tryz.func234,Tryz.ntmps234;go_wp2_with fail
  refine Qad (fun W2 eW2=> ?_);obtain⟨e0,e1,e2⟩:=rR3 eW2 w.heap.size (.slice a1 n1 c1) (.int .i64 c) (.string s);obtain⟨e3,e4⟩:=rR2 eW2 (w.heap.size+1) (.slice a2 n2 c2) (.int .i64 d);have zW2_0:=zE eW2 w.heap.size;have zW2_1:=zE eW2 (w.heap.size+1);have hw2:=xE w eW2;clear eW2;refine Qaa fol kR (fun hlater=> ?_);repeat(go_big_quiet_step ((fail)))
  refine wpQuiet_nil ?_;rintro w3 ⟨⟨w3x,hx3⟩,rfl⟩;clear hlater;go_wp2_with fail
  go_ret;exact⟨rb HB.o.symm,ext_trans hw2 hx3⟩
theorem Qr7:(Tryz.prog.info? 134).map (fun i=>(i.zero,i.size,i.bytes))=some (some (.agg #[.slice none 0 0,.int .i64 0,.string ⟨#[]⟩]),3,48):=kR
theorem Qqy:∀F w cs (y:Rn),RRn F w cs y→∀u∈cs,u.oneCell'=true:=by
 rintro F w cs y ⟨v,s,rfl,h,_,hs⟩ u hu;obtain⟨a,n,c,rfl⟩:=h.slice;obtain⟨t,rfl,_,_⟩:=Qby hs;simp at hu;rcases hu with rfl|rfl|rfl<;>rfl
theorem Qsk {e base:Nat} {F:Nat→Prop} {w:World} {a:Option Addr} {n c:Nat} {q:List Rn} (h:OSl RRn 3 e base F w (.slice a n c) q) {i:Nat} (hi:i<q.length):
  ∃g p d s ap cp,a=some ⟨g,0,none⟩∧base≤g∧g<w.heap.size∧q[i]?=some ((p,d),(s:ByteArray).data.toList)∧s.size≤140737488351232∧I64 d∧RSl Qdt 2 F w (.slice ap p.length cp) p∧
   w.cell? ⟨g,i * 3,none⟩=some (.slice ap p.length cp)∧w.cell? ⟨g,i * 3+1,none⟩=some (.int .i64 d)∧w.cell? ⟨g,i * 3+2,none⟩=some (.string s)∧w.frozen? ⟨g,i * 3+2,none⟩=false:=by
 obtain⟨g,x,cs,_,ha,hb,hs,hx,_,hr,⟨v,u,rfl,h1,h2,h3⟩,hf⟩:=Qlb h hi;obtain⟨ap,np,cp,rfl⟩:=h1.slice;obtain⟨rfl,_,_⟩:=h1.len;obtain⟨⟨p,d⟩,t⟩:=x;obtain⟨s,rfl,rfl,h4⟩:=Qby h3;exact⟨g,p,d,s,ap,cp,ha,hb,hs,hx,h4,h2,h1.more Qap (fun k hk _=>hk.1),by simpa using hr 0 _ rfl,by simpa [Nat.add_assoc] using hr 1 _ rfl,by simpa [Nat.add_assoc] using hr 2 _ rfl,hf _⟩
theorem Qjc {l:List At} {k:Nat} {a:At} (h:l[k]?=some a):Qct (l.take (k+1))=Qeb (Qct (l.take k)) a:=by
 obtain⟨h1,h2⟩:=List.getElem?_eq_some_iff.1 h;unfold Qct;rw[List.take_succ_eq_append_getElem h1,h2,List.foldl_append];rfl
theorem Qpg (a:At):Qeb [] a=[(a.1,[a.2])]:=rfl
theorem Qgl {q:List Rn} {r:Rn} {a:At} (h:q[q.length-1]?=some r) (hb:Qeh r a=true):Qeb q a=q.set (q.length-1) (r.1,r.2++[a.2]):=by
 have hl:q.getLast?=some r:=by rw[List.getLast?_eq_getElem?];exact h
 unfold Qeh at hb;rw[Bool.and_eq_true,decide_eq_true_eq,beq_iff_eq] at hb;unfold Qeb;rw[hl];simp only;rw[if_pos hb];have hne:q≠[]:=by rintro rfl;simp at h
 obtain⟨ys,y,rfl⟩:=Qf7 hne;simp
theorem Qf6 {q:List Rn} {r:Rn} {a:At} (h:q[q.length-1]?=some r) (hb:Qeh r a=false):Qeb q a=q++[(a.1,[a.2])]:=by
 have hl:q.getLast?=some r:=by rw[List.getLast?_eq_getElem?];exact h
 unfold Qeb;rw[hl];simp only;rw[if_neg];rintro⟨h1,h2⟩;unfold Qeh at hb;rw[decide_eq_true h1,h2] at hb;simp at hb
def Qnx (q:List Rn):Prop:=∀r∈q,Qaf r.1=0∧r.2.length≤60∧r.2≠[]
theorem Qph {q:List Rn} {a:At} (h:Qnx q) (ha:Qaf a.1=0):Qnx (Qeb q a):=by
 have hnew:Qnx (q++[(a.1,[a.2])]):=by
  intro r hr;rcases List.mem_append.1 hr with hr|hr
  ·exact h r hr
  ·have:r=(a.1,[a.2]):=by simpa using hr
   subst this;exact⟨ha,sI,sI⟩
 by_cases hq:q=[]
 ·subst hq;exact hnew
 ·have hlt:q.length-1<q.length:=by have:=List.length_pos_iff.2 hq;omega
  have hr:=List.getElem?_eq_getElem hlt;cases hb:Qeh q[q.length-1] a with
  |true=>
   rw[Qgl hr hb];intro r hr2;rcases List.mem_or_eq_of_mem_set hr2 with h2|rfl
   ·exact h r h2
   ·have h3:=h _ (List.getElem_mem hlt);unfold Qeh at hb;rw[Bool.and_eq_true,decide_eq_true_eq] at hb;exact⟨h3.1,sP,sI⟩
  |false=>rw[Qf6 hr hb];exact hnew
theorem Qwq (q:List Rn) (a:At):(Qeb q a).length≤q.length+1:=by
 unfold Qeb;split
 ·split
  ·first|(simp;omega)|simp
  ·simp
 ·simp
theorem Qiu:∀(l:List At) (k:Nat),(Qct (l.take k)).length≤k
 |l,0=>by simp[Qct]
 |l,k+1=>by
  by_cases h:k<l.length
  ·rw[Qjc (List.getElem?_eq_getElem h)];have h1:=Qiu l k;have h2:=Qwq (Qct (l.take k)) l[k];omega
  ·have h1:=Qiu l k;rw[List.take_of_length_le oM] at h1 ⊢;omega
theorem Qvx {s:UInt8} (h:s.toNat≤126):Utf8.encode ((s.toNat:Nat):Int)=⟨#[s]⟩:=by
 have h1:Utf8.valid ((s.toNat:Nat):Int)=true:=by unfold Utf8.valid;simp;omega
 unfold Utf8.encode;simp only[h1,if_true,Int.toNat_natCast];rw[if_pos oM];simp
theorem Qnr {e base:Nat} {F:Nat→Prop} {w:World} {g n c:Nat} {q:List Rn} (h:OSl RRn 3 e base F w (.slice (some ⟨g,0,none⟩) n c) q) {i:Nat} (hi:i<q.length) {m:Mk} {sx eb:ByteArray} {s:UInt8} (he:q[i]?=some (m,sx.data.toList)) (heb:eb=⟨#[s]⟩) (hs:sx.size≤60):
  OSl RRn 3 e base F (w.setCell ⟨g,i * 3+2,none⟩ (.string (sx++eb))) (.slice (some ⟨g,0,none⟩) n c) (q.set i (m,sx.data.toList++[s])):=by
 refine Qf4 gRn h hi oM (fun G W cs y hy hr=> ?_);rw[he] at hy;have:(m,sx.data.toList)=y:=by simpa using hy
 subst this;obtain⟨v,u,rfl,h1,h2,_⟩:=hr;refine⟨v,.string (sx++eb),rfl,h1,h2,?_⟩;subst heb;have h9:(⟨#[s]⟩:ByteArray).size=1:=rfl;have h3:=Qss (s:=sx++⟨#[s]⟩) (by rw[ByteArray.size_append,h9];omega);simpa using h3
theorem Qu2 {n:Nat} (h:n≤300):wrap64 ((n:Int)+1)=(n:Int)+1:=IntWalk.wrap64_in _ oM
theorem Vdc {n:Nat} (h:n≤300):n+1≤maxLen:=Nat.le_trans (Nat.succ_le_succ h) (by unfold maxLen;decide)
theorem Vdd {n:Nat} (h:n≤300):(n+1) * 48≤140737488355328:=oM
theorem Q8i {a b:Mk} {t:Tx} (h:(a,([]:Tx))=(b,t)):t=[]:=(congrArg Prod.snd h).symm
theorem Q8s {p px:List Stp} {d dx:Int} {t:Tx} {s:UInt8} (h:((p,d),([]:Tx))=((px,dx),t)):([((p,d),([]:Tx))]:List Rn).set 0 ((px,dx),t++[s])=[((p,d),[s])]:=by
 injection h with h1 h2
 rw[h1,←h2];rfl
theorem Va4 {p px:List Stp} {d dx:Int} {t:Tx} {s:UInt8} {q:List Rn} (h:((p,d),([]:Tx))=((px,dx),t)):(q++[((p,d),([]:Tx))]).set q.length ((px,dx),t++[s])=q++[((p,d),[s])]:=by
 injection h with h1 h2
 rw[h1,←h2];simp
def Q8o (l:List Rn) (w:World) (e:Ending) (w':World):Prop:=∃v,e= .returned v∧RSl RRn 3 (fun k=>w.heap.size≤k) w' v l∧Ext w w'
theorem Qlc {e base:Nat} {F:Nat→Prop} {w:World} {v:Value} {q q':List Rn} (h:OSl RRn 3 e base F w v q) (hq:q=q'):OSl RRn 3 e base F w v q':=hq▸h
end Go.Proofs.YtgnccjojfebkeaaGreat
namespace Go.Proofs.YtgnccjojfebkeaaGreat
open Go Cp
def b8 (n:Int):UInt8:=UInt8.ofNat (n % 256).toNat
section
variable {α:Type}
end
section
variable {α:Type}
end
theorem Qxt {m:Mk} (h:Qbf m=true):m=([],0):=by
 unfold Qbf at h;simp at h;obtain⟨p,c⟩:=m;obtain⟨h1,h2⟩:=h;simp only at h1 h2;rw[h1,h2]
theorem Qyp {n:No} (h:Qa0 n=0):inB n.site 0 4=true∧inB n.number 1 500=true∧n.needs.length=5∧n.needs.any Qf9=false∧n.needs[n.site.toNat]?.getD 0=n.number-1∧n.deeds.length≠0∧n.deeds.length≤20∧Qce n.deeds=0:=by
 cases h1:inB n.site 0 4 with
 |false=>rw[Qhq h1] at h;cases h
 |true=>
  cases h2:inB n.number 1 500 with
  |false=>rw[Qff h2] at h;cases h
  |true=>
   by_cases h3:n.needs.length=5
   ·cases h4:n.needs.any Qf9 with
    |true=>rw[Qgd h1 h2 h3 h4] at h;cases h
    |false=>
     rw[Qfu h1 h2 h3 h4] at h;by_cases h5:n.needs[n.site.toNat]?.getD 0=n.number-1
     ·rw[if_neg (by simpa using h5)] at h;by_cases h6:n.deeds.length=0
      ·rw[if_pos h6] at h;cases h
      ·rw[if_neg h6] at h;by_cases h7:20<n.deeds.length
       ·rw[if_pos h7] at h;cases h
       ·rw[if_neg h7] at h;exact⟨rfl,rfl,h3,rfl,h5,h6,oM,h⟩
     ·rw[if_pos h5] at h;cases h
   ·rw[Qi1 h1 h2 h3] at h;cases h
end Go.Proofs.YtgnccjojfebkeaaGreat
namespace Go.Proofs.YtgnccjojfebkeaaGreat
open Go Go.RowKit Go.BigFrame Cp
theorem Q95 (a b:No):Qdz a b=orI (Qdl a.site b.site) (Qdl a.number b.number):=rfl
theorem Qma {F G:Nat→Prop} {w:World} {cs ds:List Value} {a b:No} (h:RNo F w cs a) (k:RNo G w ds b):
  Calls Tryz.prog 155 #[.agg cs.toArray,.agg ds.toArray] w fun e w'=>e= .returned (.int .i64 (Qdz a b))∧Ext w w':=by
 rw[Q95];obtain⟨v,u,rfl,_,_,h1,h2⟩:=h;obtain⟨v',u',rfl,_,_,k1,k2⟩:=k;obtain⟨a1,n1,c1,rfl⟩:=h1.slice;obtain⟨a2,n2,c2,rfl⟩:=h2.slice;obtain⟨a3,n3,c3,rfl⟩:=k1.slice;obtain⟨a4,n4,c4,rfl⟩:=k2.slice;clear h1 h2 k1 k2;go_enter Tryz.func155,Tryz.ntmps155;go_wp2
 refine Qhb 10 fol kR ?_;simp only[List.take_succ_cons,List.take_zero,List.drop_succ_cons,List.drop_zero];repeat still_step
 still_call (Qkm _ _ _)
 repeat still_step
 still_call (Qkm _ _ _)
 repeat still_step
 refine wpStill_nil ?_;go_wp2_with (go_at_call 195;refine(Q3b (Qdl a.site b.site) (Qdl a.number b.number) _ _ gS gS).mono ?_;rintro e w1 ⟨rfl,rfl⟩)
 go_ret;exact⟨rfl,Qac⟩
theorem Ql2 {F:Nat→Prop} {w:World} {cs:List Value} {m:Mk} {site:Int} (h:RMk F w cs m) (hc:m.1≠[]) (hl10:m.1.length≤1000):
  Calls Tryz.prog 184 #[.agg cs.toArray,.int .i64 site] w fun e w'=>e= .returned (.int .i64 (Qgu site m))∧Ext w w':=by
 obtain⟨v,rfl,hl,_⟩:=h;obtain⟨l,c⟩:=m;simp only at hl hc hl10 ⊢;obtain⟨a,n,c1,rfl⟩:=hl.slice;obtain rfl:n=l.length:=hl.len.1;obtain⟨k,hk,hk9⟩:∃k:Nat,l.length=k+1∧k≤1000:=⟨l.length-1,by have:=List.length_pos_iff.2 hc;omega,oM⟩;rw[hk] at hl ⊢;obtain⟨b,o,x,y,rfl,hb,ek,_,_,y0,y1⟩:=Qfb hl (Nat.lt_succ_self k);have e:Qgu site (l,c)=if y=site then c else 0:=by unfold Qgu;rw[Qig hk ek]
 rw[e];have hbn:¬b=w.heap.size:=oM;clear hl ek hc hk e hl10;by_cases hy:y=site
 ·rw[if_pos hy];have t1:(y==site)=true:=by simpa using hy
  clear hy;go_enter Tryz.func184,Tryz.ntmps184;go_wp2_with fail
  go_ret;exact⟨rfl,Qac⟩
 ·rw[if_neg hy];have t1:(y==site)=false:=by simpa using hy
  clear hy;go_enter Tryz.func184,Tryz.ntmps184;go_wp2_with fail
  go_ret;exact⟨rfl,Qac⟩
theorem Qp0 {F G:Nat→Prop} {w:World} {cs ds:List Value} {d:Dk} {n:No} (h:RDk F w cs d) (k:RNo G w ds n) (hs:0≤d.site∧d.site≤4) (h5:d.seen.length=5) (k5:n.needs.length=5):
  Calls Tryz.prog 156 #[.agg cs.toArray,.agg ds.toArray] w fun e w'=>e= .returned (.bool (Qfq d n))∧Ext w w':=by
 obtain⟨va,vg,vs,vw,vo,rfl,_,ha,hg,hq,hw,_,ho⟩:=h;obtain⟨v,u,rfl,_,_,hn,hd⟩:=k;obtain⟨st,ss,sn,wt,ck,ou⟩:=d;obtain⟨ns,nn,nd,dd⟩:=n;simp only at ha hg hq hw ho hn hd hs h5 k5 ⊢;obtain⟨j,rfl⟩:∃j:Nat,st=(j:Int):=⟨st.toNat,oM⟩;have hj:j<5:=oM;obtain⟨a1,n1,c1,rfl⟩:=ha.slice;obtain⟨a2,n2,c2,rfl⟩:=hg.slice;obtain⟨a3,n3,c3,rfl⟩:=hq.slice;obtain⟨a4,n4,c4,rfl⟩:=hw.slice;obtain⟨a5,n5,c5,rfl⟩:=ho.slice;obtain⟨a6,n6,c6,rfl⟩:=hn.slice;obtain⟨a7,n7,c7,rfl⟩:=hd.slice;obtain rfl:n3=5:=hq.len.1.trans h5;obtain rfl:n6=5:=hn.len.1.trans k5;obtain⟨b,o,x,rfl,hb,e1,_,ca⟩:=Qdb hq hj;obtain⟨b',o',y,rfl,hb',e2,_,cb⟩:=Qdb hn hj;have HA:=hH (show decide (x<y)=Qfq ⟨(j:Int),ss,sn,wt,ck,ou⟩ ⟨ns,nn,nd,dd⟩ by have h1:=Qe2 e1;have h2:=Qe2 e2;subst h1;subst h2;rfl);clear ha hg hq hw ho hn hd hs h5 k5 e1 e2;go_enter Tryz.func156,Tryz.ntmps156;go_wp2_with fail
 refine Qad (fun W2 eW2=> ?_);obtain⟨e0,e1,e2,e3,e4,e5,e6⟩:=rR7 eW2 w.heap.size (.int .i64 (j:Nat)) (.slice a1 n1 c1) (.slice a2 n2 c2) (.slice (some ⟨b,o,none⟩) 5 c3) (.slice a4 n4 c4) (.int .i64 ck) (.slice a5 n5 c5);obtain⟨g0,g1,g2,g3⟩:=rR4 eW2 (w.heap.size+1) (.int .i64 ns) (.int .i64 nn) (.slice (some ⟨b',o',none⟩) 5 c6) (.slice a7 n7 c7);have x0:=rL eW2 ⟨b,o+j,none⟩ (.int .i64 x);have x1:=rL eW2 ⟨b',o'+j,none⟩ (.int .i64 y);have zW2_0:=zE eW2 w.heap.size;have zW2_1:=zE eW2 (w.heap.size+1);have zW2_2:=zE eW2 b;have zW2_3:=zE eW2 b';have hw2:=xE w eW2;clear eW2;refine Qaa fol kR (fun hlater=> ?_);repeat(go_big_quiet_step ((fail)))
 refine wpQuiet_nil ?_;rintro w3 ⟨⟨w3x,hx3⟩,rfl⟩;clear hlater;go_wp2_with fail
 go_ret;exact⟨rb HA.o,ext_trans hw2 hx3⟩
theorem Qzg {m:Mk} (h:Qaf m=0):m.1.length≤8000000000000∧m.1≠[]∧(0≤Qa6 m.1∧Qa6 m.1≤1000)∧0≤m.2∧m.2≤20000:=by
 obtain⟨h1,h2,h3,h4,h5,h6⟩:=checkM_ok.1 h;refine⟨oM,h2,?_,oM,oM⟩;obtain⟨q,s,e⟩:=Qf7 h2;rw[e,Qfe,Bool.or_eq_false_iff] at h3;have:=badS_ok.1 h3.2;rw[e,Qey];omega
theorem Q44 {m:Mk} {k:Int} (h:Qaf m=0):(Qar m k).1≠[]∧(Qar m k).1.length≤1000:=by
 have h1:=checkM_ok.1 h;unfold Qar;simp only;refine⟨fun e=>h1.2.1 (List.eq_nil_of_length_eq_zero (by rw[←Qjs m.1 k,e];rfl)),by rw[Qjs];omega⟩
theorem Qte {site:Int} {l:List De} {k:Nat} {d:De} (h:l[k]?=some d):Qik (Qps site) 0 (l.take (k+1))=Qk4 (Qik (Qps site) 0 (l.take k)) (Qps site d):=Qim _ _ h
theorem Qqh {F:Nat→Prop} {w:World} {v:Value} {l:List De} {site:Int} (h:RSl RDe 7 F w v l) (hd:∀d∈l,Qat d=0) (hl:l.length≤1000):
  Calls Tryz.prog 159 #[v,.int .i64 site] w fun e w'=>e= .returned (.int .i64 (Qhz site l))∧Ext w w':=by
 have HL:=hH (fun(W:World) (hx:Ext w W)=>h.ext gDe hx);obtain⟨a0,n0,c0,rfl⟩:=h.slice;obtain rfl:n0=l.length:=h.len.1;have HD:=hH hd;clear h hd;go_enter Tryz.func159,Tryz.ntmps159;go_wp2_with fail
 go_loopw [5,12] (fun nv iv wr=>∃k:Nat,k≤l.length∧iv= .int .i64 k∧nv= .int .i64 (Qik (Qps site) 0 (l.take k))∧Hid (Ext w wr)) (fun _ iv _=>l.length-(intOf iv).toNat)
 case atStart=>exact⟨0,Nat.zero_le _,rfl,rfl,hH Qac⟩
 case round=>
  obtain⟨k,hk,rfl,rfl,HX⟩:=hrel;by_cases hlt:k<l.length
  ·obtain⟨b,o,d,b1,m1,e1,b2,m2,e2,s,rfl,hb,ek,hde,u0,u1,u2,u3,u4,u5,u6⟩:=Qfd (HL.o wr HX.o) hlt;have hcd:=HD.o d (List.mem_of_getElem? ek);have HEK:=hH (Qte (site:=site) ek);obtain⟨n,n1,n2,q1,q2,q3,q4⟩:=Qkn hcd;have HAF:=hH (Q44 (k:=Qhv d) q3);obtain⟨f1,f2,f3,f4⟩:=Qzg q3;have hmo:0≤Qhv d∧Qhv d≤1000:=oM;have hbn:¬b=wr.heap.size:=oM;have hbn1:¬b=wr.heap.size+1:=oM;obtain⟨v1,x1,y1,he,_,hp1,ic1,htx,hp2,ic2,im2⟩:=hde;injection he with _ he
   injection he with he1 he
   injection he with _ he
   injection he with he2 he
   injection he with he3 he
   subst he1;subst he2;subst he3;obtain⟨s',hs1,hs2,hsb⟩:=Qby htx;injection hs1 with hs1
   subst hs1;have HSZ:=hH (show(s.size:Int)=(d.run.2.length:Int) by rw[hs2];simp);have HSB:=hH (show(s.size:Int)≤140737488351232 by omega);clear hsb;have HMO:=hH (fun(h:¬d.kind=1)=>(show Qhv d=d.many-1 by unfold Qhv;rw[if_neg h]));have HMB:=hH (fun(h:¬d.kind=1)=>(show -9223372036854775808≤d.many-1∧d.many-1≤9223372036854775807 by have:=HMO.o h;omega));clear htx hs2;have HAC:=hH (fun(W:World) (hx:Ext wr W) (ds:List Value) (hm:RMk (fun _=>True) W ds (Qhu d))=>Qh7 hm f1 f2 f3 f4 hmo);have HP1:=hH (fun(W:World) (hx:Ext wr W)=>(Qam ((hp1.more Qap (G:=fun _=>True) (fun _ _ _=>trivial)).ext Qap hx) ic1:RMk (fun _=>True) W [.slice b1 m1 e1,.int .i64 d.run.1.2] d.run.1));have HP2:=hH (fun(W:World) (hx:Ext wr W)=>(Qam ((hp2.more Qap (G:=fun _=>True) (fun _ _ _=>trivial)).ext Qap hx) ic2:RMk (fun _=>True) W [.slice b2 m2 e2,.int .i64 d.mark.2] d.mark));have hcd2:Qps site d=Qgu site (Qar (Qhu d) (Qhv d)):=rfl;rw[hcd2] at HEK;clear hcd2;obtain⟨cd,hcdv⟩:∃c:Int,Qgu site (Qar (Qhu d) (Qhv d))=c:=⟨_,rfl⟩;have HCK:=hH (fun(W:World) (G:Nat→Prop) (ds:List Value) (hm:RMk G W ds (Qar (Qhu d) (Qhv d)))=>(Ql2 (site:=site) hm HAF.o.1 HAF.o.2));rw[hcdv] at HEK HCK;generalize Qik (Qps site) 0 (l.take k)=mx at *;clear q1 q2 q3 q4 f1 f2 f3 f4 hmo hcd ek hcdv n1 n2 hp1 hp2 ic1 ic2;by_cases hkd:d.kind=1
   ·have HMK:=hH (show Qhu d=d.run.1 by unfold Qhu;rw[if_pos hkd]);have HWS:=hH (show wrap64 ((s.size:Int)-1)=Qhv d by have:=HSB.o;rw[IntWalk.wrap64_in _ oM,HSZ.o];unfold Qhv;rw[if_pos hkd]);have t1:(d.kind==1)=true:=by simpa using hkd
    clear hkd;go_wp2_with fail
    go_region_held3 (fun W=>W.cell? ⟨wr.heap.size,0,none⟩=some (.int .i64 d.kind)∧W.cell? ⟨wr.heap.size,1,none⟩=some (.slice b1 m1 e1)∧W.cell? ⟨wr.heap.size,2,none⟩=some (.int .i64 d.run.1.2)∧W.cell? ⟨wr.heap.size,3,none⟩=some (.string s)∧W.cell? ⟨wr.heap.size,4,none⟩=some (.slice b2 m2 e2)∧W.cell? ⟨wr.heap.size,5,none⟩=some (.int .i64 d.mark.2)∧W.cell? ⟨wr.heap.size,6,none⟩=some (.int .i64 d.many)) (go_keep) (fail)
    go_wp2_with fail
    go_region_held3 (fun W=>W.cell? ⟨wr.heap.size,0,none⟩=some (.int .i64 d.kind)∧W.cell? ⟨wr.heap.size,1,none⟩=some (.slice b1 m1 e1)∧W.cell? ⟨wr.heap.size,2,none⟩=some (.int .i64 d.run.1.2)∧W.cell? ⟨wr.heap.size,3,none⟩=some (.string s)∧W.cell? ⟨wr.heap.size,4,none⟩=some (.slice b2 m2 e2)∧W.cell? ⟨wr.heap.size,5,none⟩=some (.int .i64 d.mark.2)∧W.cell? ⟨wr.heap.size,6,none⟩=some (.int .i64 d.many)) (go_keep) (fail)
    go_wp2_with (first|(go_at_call 199;rw[HWS.o];((with_reducible refine(HAC.o _ Qac _ (by rw[HMK.o];exact HP1.o _ Qac)).mono ?_);rintro e w1 ⟨cs1,rfl,hm1,hx1⟩;have hk1:=Qem hm1;have hk1':=hk1;obtain⟨v1',rfl,_,_⟩:=hk1';have HM1:=hH hk1;have hz1:=hx1.size;(try simp at hz1);have HX1:=xX HX hx1;clear hm1 hk1))|(go_at_call 184;((with_reducible refine(HCK.o _ _ _ (gMk.ext HM1.o Qac)).mono ?_);rintro e w2 ⟨rfl,hx2⟩;have HX2:=xX HX1 hx2)))
    go_roundw
    case rel=>exact⟨k+1,hlt,by go_num,by rw[HEK.o];rfl,HX2⟩
    case measure=>simp[intOf];omega
   ·have HMK:=hH (show Qhu d=d.mark by unfold Qhu;rw[if_neg hkd]);have HWS:=hH (show wrap64 (d.many-1)=Qhv d by rw[HMO.o hkd,IntWalk.wrap64_in _ (HMB.o hkd)]);have t1:(d.kind==1)=false:=by simpa using hkd
    clear hkd;go_wp2_with fail
    go_region_held3 (fun W=>W.cell? ⟨wr.heap.size,0,none⟩=some (.int .i64 d.kind)∧W.cell? ⟨wr.heap.size,1,none⟩=some (.slice b1 m1 e1)∧W.cell? ⟨wr.heap.size,2,none⟩=some (.int .i64 d.run.1.2)∧W.cell? ⟨wr.heap.size,3,none⟩=some (.string s)∧W.cell? ⟨wr.heap.size,4,none⟩=some (.slice b2 m2 e2)∧W.cell? ⟨wr.heap.size,5,none⟩=some (.int .i64 d.mark.2)∧W.cell? ⟨wr.heap.size,6,none⟩=some (.int .i64 d.many)) (go_keep) (fail)
    go_wp2_with (first|(go_at_call 199;rw[HWS.o];((with_reducible refine(HAC.o _ Qac _ (by rw[HMK.o];exact HP2.o _ Qac)).mono ?_);rintro e w1 ⟨cs1,rfl,hm1,hx1⟩;have hk1:=Qem hm1;have hk1':=hk1;obtain⟨v1',rfl,_,_⟩:=hk1';have HM1:=hH hk1;have hz1:=hx1.size;(try simp at hz1);have HX1:=xX HX hx1;clear hm1 hk1))|(go_at_call 184;((with_reducible refine(HCK.o _ _ _ (gMk.ext HM1.o Qac)).mono ?_);rintro e w2 ⟨rfl,hx2⟩;have HX2:=xX HX1 hx2)))
    go_roundw
    case rel=>exact⟨k+1,hlt,by go_num,by rw[HEK.o];rfl,HX2⟩
    case measure=>simp[intOf];omega
  ·have hke:k=l.length:=oM;subst hke;have HF:=hH (show Qik (Qps site) 0 (l.take l.length)=Qhz site l by rw[List.take_length];rfl);go_wp2
   go_ret;exact⟨ri HF.o,HX.o⟩
end Go.Proofs.YtgnccjojfebkeaaGreat
namespace Go.Proofs.YtgnccjojfebkeaaGreat
open Go Go.RowKit Cp
theorem Q1b {F:Nat→Prop} {w:World} {v:Value} {l:List Stp} {k0:Nat} {site:Int} (h:RSl Qdt 2 F w v l) (hk0:k0<l.length) (hok:∀s∈l,0≤s.1∧s.1≤200) (hl:Qa6 l≠0) (hsz:l.length≤10000) (hsi:I64 site):
  Calls Tryz.prog 253 #[v,.int .i64 k0,.int .i64 site] w (Q0p (fun k=>F k∧k<w.heap.size) (Qcg site (l.take k0) (l.drop k0)) w):=by
 obtain⟨a1,n1,c1,rfl⟩:=h.slice;obtain⟨rfl,k1,k1'⟩:=h.len;unfold maxLen at k1';have q1:l.length≤9223372036854775807:=oM;have q2:c1≤9223372036854775807:=oM;have q3:k0≤9223372036854775807:=oM;clear k1';have HL:=hH h;have HOK:=hH hok;have HLD:=hH hl;have HSI:=hH hsi;clear h hok hl hsi;obtain⟨i0,hi,hz0,hz1,hz2⟩:=info_parts Qkt;have HI:=hH hi;have HZ0:=hH hz0;have HZ1:=hH hz1;have HZ2:=hH hz2;clear hi hz0 hz1 hz2;go_enter Tryz.func253,Tryz.ntmps253;go_wp2
 go_loopw [7] (fun i wr=>∃k:Nat,k<l.length∧i= .int .i64 k∧Hid (Qcg site (l.take k0) (l.drop k0)=Qcg site (l.take k) (l.drop k))∧Ext (w.alloc (.cells #[.slice none 0 0,.int .i64 0,.int .i64 0] 280)) wr) (fun i _=>l.length-(intOf i).toNat)
 case atStart=>exact⟨k0,oM,rfl,hH rfl,ext_refl _⟩
 case round=>
  obtain⟨k,h1,rfl,ho,hx⟩:=hrel;have HW:=hH (ext_trans (ext_alloc (ext_refl _) _) hx);obtain⟨r0,r1,r2⟩:=cC3 hx w.heap.size (.slice none 0 0) (.int .i64 0) (.int .i64 0);have f0:=fL hx w.heap.size 0;have f1:=fL hx w.heap.size 1;have f2:=fL hx w.heap.size 2;have HX:=hH hx;have hsw:=hx.size;simp at hsw;clear hx;obtain⟨b1,o1,x1,y1,rfl,hb1,e1,_,_,ca,cb⟩:=Qfb (RSl.ext Qap HL.o HW.o) h1;have HA:=hH (Qyl (site:=site) e1);obtain⟨d1,d2⟩:=HOK.o _ (List.mem_of_getElem? e1);simp only at d1 d2;have hlast:x1=0→k+1<l.length:=fun hz=>by
   apply Classical.byContradiction
   intro hc;have:k=l.length-1:=oM;subst this;exact HLD.o ((Qcp e1).trans hz)
  have HLA:=hH hlast;clear e1 hb1 hlast;have kc:k≤c1:=oM;by_cases h2:1<x1
  ·have HG:=hH (show Qcg site (l.take k0) (l.drop k0)=⟨l.take k,1,x1-1⟩ by rw[ho.out,HA.o,if_pos h2]);go_wp2
   refine bodyPost_ret (v:= .agg #[.slice (some ⟨b1,o1,none⟩) k c1,.int .i64 1,.int .i64 (x1-1)]) (by simp[results,Tryz.results253,go_sem,r0,r1,r2]) rfl ⟨.slice (some ⟨b1,o1,none⟩) k c1,by rw[HG.o],?_,(by repeat(first|(with_reducible exact ext_refl _)|(with_reducible refine ext_drew ?_)|(with_reducible refine ext_drewN ?_ _)|(with_reducible refine ext_alloc ?_ _)|(with_reducible refine ext_set ?_ ltA _)|(with_reducible refine Qan ?_ HW.o)))⟩;rw[HG.o];exact Zba
  by_cases h3:x1=1
  ·have t1:(x1==1)=true:=by rw[beq_iff_eq];exact h3
   have HG:=hH (show Qcg site (l.take k0) (l.drop k0)=⟨l.take k++[(0,site)],1,200⟩ by rw[ho.out,HA.o,if_neg h2,if_pos h3]);have HCL:=hH (Qex (Qsr (HL.o.ext Qap HW.o) (k:=k) oM) (by rw[List.length_take];omega));clear h3;go_wp2_with (first
    |(go_at_call 225;((with_reducible refine HCL.o.mono ?_);rintro e w1 ⟨v1,rfl,hv1,hx1⟩;obtain⟨a3,n3,c3,rfl⟩:=Qab hv1;have HV1:=hH hv1;have hs1:=hx1.size;have HX1:=hH hx1;clear hv1 hx1))
    |(at_builtin;go_must (refine Qds Qap rfl (.tmp 32) (.tmp 35) 101 rfl wr.heap.size 196 i0 _ 2 16 Tryz.underlying101 HI.o HZ0.o HZ1.o HZ2.o rfl oM (F:=fun _=>True) (G:=fun _=>False) _ (l.take k) rfl (Qai Qap HV1.o (ext_alloc (ext_refl _) _)) w1.heap.size 0 1 [.int .i64 0,.int .i64 site] (0,site) rfl rfl (Qlf gS gS) (Ql8 (fun _=>True) w1 _ (0,site) ⟨rfl,Qal sI sI,HSI.o⟩) ⟨rfl,Qal sI sI,HSI.o⟩ (fun _ hk _=>hk.elim) (by rw[List.length_take];simp only[maxLen];omega) (by rw[List.length_take];omega) sO ?_;intro v2 w2 hown2 hg2 hat2;obtain⟨a4,n4,c4,rfl⟩:=Qab hown2;have hx2:Ext (w.alloc (.cells #[.slice none 0 0,.int .i64 0,.int .i64 0] 280)) w2:=Qao (by repeat(first|(with_reducible exact ext_refl _)|(with_reducible refine ext_drew ?_)|(with_reducible refine ext_drewN ?_ _)|(with_reducible refine ext_alloc ?_ _)|(with_reducible refine ext_set ?_ ltA _)|(with_reducible refine Qan ?_ HX1.o)|(with_reducible refine Qan ?_ HX.o))) hg2 (fun k hk=>by have:=(Qak HV1.o k hk).1;simp<;>omega);have HV2:=hH hown2;clear hown2 hg2 hat2 r0 r1 r2 f0 f1 f2;obtain⟨r0,r1,r2⟩:=cC3 hx2 w.heap.size (.slice none 0 0) (.int .i64 0) (.int .i64 0);have f0:=fL hx2 w.heap.size 0;have f1:=fL hx2 w.heap.size 1;have f2:=fL hx2 w.heap.size 2;have HX2:=hH hx2;clear hx2)))
   refine bodyPost_ret (v:= .agg #[.slice a4 n4 c4,.int .i64 1,.int .i64 200]) (by simp[results,Tryz.results253,go_sem,r0,r1,r2]) rfl ⟨.slice a4 n4 c4,by rw[HG.o],?_,(by repeat(first|(with_reducible exact ext_refl _)|(with_reducible refine ext_drew ?_)|(with_reducible refine ext_drewN ?_ _)|(with_reducible refine ext_alloc ?_ _)|(with_reducible refine ext_set ?_ ltA _)|(with_reducible refine Qan ?_ HX2.o)))⟩;rw[HG.o];exact RSl.more Qap (fun k hk _=> .inr (Nat.le_of_lt hk)) (RSl.keep Qap (F:=fun k=>w.heap.size<k) (by repeat(first|(with_reducible exact Qag)|(with_reducible refine Qbh ?_)|(with_reducible refine Qa1 ?_ _)|(with_reducible refine Qae ?_ ltA _))) (Qaz Qap (Qf3 Qi5 (G:=fun k=>w.heap.size<k) HV2.o) (fun k hk _=>hk) (fun k hk=>by omega)))
  ·have t1:(x1==1)=false:=by rw[beq_eq_false_iff_ne];exact h3
   have HG:=hH (show Qcg site (l.take k0) (l.drop k0)=Qcg site (l.take (k+1)) (l.drop (k+1)) by rw[ho.out,HA.o,if_neg h2,if_neg h3]);have hz:x1=0:=oM;have hk1:=HLA.o hz;clear h3 hz;go_wp2
   go_roundw
   case rel=>exact⟨k+1,oM,by go_num,HG,HX.o⟩
   case measure=>simp[intOf];omega
end Go.Proofs.YtgnccjojfebkeaaGreat
