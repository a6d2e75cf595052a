/- Plain facts on atoms: sorted atoms are what is to be seen of them at each mark; put in whatever order they are the same; what is taken is gone. -/
import Derived.Test.YtgnccjojfebkeaaGreatQb497ca1fba
import Derived.StillTailTactics
import Derived.Test.YtgnccjojfebkeaaGreatQ3471126dda
set_option linter.unusedVariables false
set_option linter.unusedSimpArgs false
set_option maxRecDepth 100000
set_option maxHeartbeats 4000000
namespace Go.Proofs.YtgnccjojfebkeaaGreat
open Go Go.RowKit Cp
theorem Q6k (x y:UInt8):mnS x y=mnS y x:=by
 unfold mnS;by_cases h:y<x
 ·rw[if_pos h,if_neg (by have:=UInt8.lt_iff_toNat_lt.1 h;rw[UInt8.lt_iff_toNat_lt];omega)]
 ·by_cases h2:x<y
  ·rw[if_neg h,if_pos h2]
  ·rw[if_neg h,if_neg h2];rw[UInt8.lt_iff_toNat_lt] at h h2;exact UInt8.toNat_inj.1 oM
theorem Qt7 (x y:UInt8):(mnS x y).toNat=min x.toNat y.toNat:=by
 unfold mnS;by_cases h:y<x
 ·rw[if_pos h];rw[UInt8.lt_iff_toNat_lt] at h;omega
 ·rw[if_neg h];rw[UInt8.lt_iff_toNat_lt] at h;omega
theorem Q25 (x y z:UInt8):mnS (mnS x y) z=mnS x (mnS y z):=by
 apply UInt8.toNat_inj.1
 simp only[Qt7];omega
def Qng:Option UInt8→Option UInt8→Option UInt8
 |none,y=>y
 |some x,none=>some x
 |some x,some y=>some (mnS x y)
theorem Qkl (x y:Option UInt8):Qng x y=Qng y x:=by
 cases x<;>cases y<;>simp[Qng,Q6k]
theorem Qi2 (x y z:Option UInt8):Qng (Qng x y) z=Qng x (Qng y z):=by
 cases x<;>cases y<;>cases z<;>simp[Qng,Q25]
theorem Qic (x:Option UInt8):Qng x none=x:=by cases x<;>rfl
def one (a:At) (x:Mk):Option UInt8:=if Qau a.1 x=0 then some a.2 else none
def Qk2:List At→Mk→Option UInt8
 | [],_=>none
 |a::r,x=>Qng (one a x) (Qk2 r x)
theorem Qdc (a:At) (r:List At) (x:Mk):Qk2 (a::r) x=Qng (one a x) (Qk2 r x):=rfl
theorem Q6p {a b:At} {x:Mk} (h:Qau a.1 b.1=0):Qng (one a x) (one b x)=one (a.1,mnS a.2 b.2) x:=by
 have e:a.1=b.1:=ordM_zero.1 h;unfold one;rw[←e];by_cases h2:Qau a.1 x=0
 ·rw[if_pos h2,if_pos h2,if_pos h2];rfl
 ·rw[if_neg h2,if_neg h2,if_neg h2];rfl
theorem Qxn:∀(l:List At) (a:At) (x:Mk),Qk2 (Qh3 l a) x=Qng (Qk2 l x) (one a x)
 | [],a,x=>by simp only[Qh3,Qk2,Qic];rfl
 |b::r,a,x=>by
  rw[Qg4];by_cases h1:Qau b.1 a.1=0
  ·rw[if_pos h1,Qdc,Qdc,←Q6p h1,Qi2,Qi2,Qkl (one a x)]
  ·rw[if_neg h1];by_cases h2:Qau b.1 a.1=1
   ·rw[if_pos h2,Qdc,Qkl]
   ·rw[if_neg h2,Qdc,Qxn r a x,Qdc,Qi2]
theorem Qqu:∀(m l:List At) (x:Mk),Qk2 (Qcf l m) x=Qng (Qk2 l x) (Qk2 m x)
 | [],l,x=>by simp only[Qcf,List.foldl_nil,Qk2,Qic]
 |a::m,l,x=>by
  have e:Qcf l (a::m)=Qcf (Qh3 l a) m:=rfl;rw[e,Qqu m,Qxn,Qdc,Qi2]
theorem Qub (a:Mk):Qau a a=0:=ordM_zero.2 rfl
theorem Q34 (l:List At) (ms:List Mk):(Qbb l ms).length≤l.length:=List.length_filter_le _ _
def Qca:List Mk→Prop
 | []=>True
 | [_]=>True
 |a::b::r=>Qau a b= -1∧Qca (b::r)
theorem Qiy {x:Mk} {r:List Mk} (h:Qca (x::r)):Qca r:=by
 cases r with
 |nil=>trivial
 |cons b r=>exact h.2
theorem Qgm:∀{r:List Mk} {x:Mk},Qca (x::r)→∀b∈r,Qau x b= -1
 | [],_,_,b,hb=>by simp at hb
 |c::r,x,h,b,hb=>by
  rcases List.mem_cons.1 hb with rfl|hb
  ·exact h.1
  ·exact Qck h.1 (Qgm h.2 b hb)
theorem Qrc {x:Mk} {r:List Mk} (h:Qca r) (k:∀b∈r,Qau x b= -1):Qca (x::r):=by
 cases r with
 |nil=>trivial
 |cons b r=>exact⟨k b sI,h⟩
def Qmf:List Mk→Mk→List Mk
 | [],m=> [m]
 |x::r,m=>if Qau x m=0 then x::r else if Qau x m=1 then m::x::r else x::Qmf r m
theorem Qe9 (x:Mk) (r:List Mk) (m:Mk):Qmf (x::r) m=if Qau x m=0 then x::r else if Qau x m=1 then m::x::r else x::Qmf r m:=rfl
def Qd0 (l:List Mk) (m:Mk):Nat:=l.countP fun x=>decide (Qau x m<0)
theorem Qle (l:List Mk) (m:Mk):Qd0 l m≤l.length:=List.countP_le_length
theorem Qwj (x:Mk) (r:List Mk) (m:Mk):Qd0 (x::r) m=Qd0 r m+if Qau x m<0 then 1 else 0:=by
 unfold Qd0;rw[List.countP_cons];simp
theorem Qfz (x:Mk) (r:List Mk) (m:Mk):Qc5 (x::r) m=(decide (Qau x m=0) ||Qc5 r m):=by simp[Qc5]
theorem Qo6 {r:List Mk} {m:Mk} (h:∀b∈r,Qau b m=1):Qd0 r m=0∧Qc5 r m=false:=by
 constructor
 ·unfold Qd0;rw[List.countP_eq_zero];intro b hb;have:=h b hb;simp;omega
 ·unfold Qc5;rw[List.any_eq_false];intro b hb;have:=h b hb;simp;omega
theorem Qnq:∀{l:List Mk} {m:Mk},Qca l→Qc5 l m=true→Qmf l m=l
 | [],m,_,h=>by simp[Qc5] at h
 |x::r,m,hs,h=>by
  rw[Qe9];by_cases h0:Qau x m=0
  ·rw[if_pos h0]
  ·rw[if_neg h0];rw[Qfz,decide_eq_false h0,Bool.false_or] at h;by_cases h1:Qau x m=1
   ·have:=(Qo6 (r:=r) (m:=m) (fun b hb=>Qhw (Qgm hs b hb) oM)).2;rw[this] at h;cases h
   ·rw[if_neg h1,Qnq (Qiy hs) h]
theorem Qsn:∀{l:List Mk} {m:Mk},Qca l→Qc5 l m=false→Qmf l m=l.take (Qd0 l m)++m::l.drop (Qd0 l m)
 | [],m,_,_=>by simp[Qmf]
 |x::r,m,hs,h=>by
  rw[Qfz,Bool.or_eq_false_iff] at h;have h0:Qau x m≠0:=by simpa using h.1
  rw[Qwj,Qe9,if_neg h0];by_cases h1:Qau x m=1
  ·rw[if_pos h1,(Qo6 (r:=r) (m:=m) (fun b hb=>Qhw (Qgm hs b hb) oM)).1,if_neg oM];rfl
  ·have h2:Qau x m= -1:=by rcases Qbw x m with h3|h3|h3<;>omega
   rw[if_neg h1,if_pos oM,Qsn (Qiy hs) h.2];rfl
theorem Qx5:∀{l:List Mk} {m b:Mk},b∈Qmf l m→b=m∨b∈l
 | [],m,b,h=>by simp[Qmf] at h;exact .inl h
 |x::r,m,b,h=>by
  rw[Qe9] at h;split at h
  ·exact .inr h
  ·split at h
   ·rcases List.mem_cons.1 h with rfl|h
    ·exact .inl rfl
    ·exact .inr h
   ·rcases List.mem_cons.1 h with rfl|h
    ·exact .inr sI
    ·rcases Qx5 h with h|h
     ·exact .inl h
     ·exact .inr (by simp[h])
theorem Qo8:∀{l:List Mk} {m:Mk},Qca l→Qca (Qmf l m)
 | [],m,_=>trivial
 |x::r,m,hs=>by
  have hr:=Qgm hs;rw[Qe9];by_cases h0:Qau x m=0
  ·rw[if_pos h0];exact hs
  ·rw[if_neg h0];by_cases h1:Qau x m=1
   ·rw[if_pos h1];refine Qrc hs (fun b hb=> ?_);rcases List.mem_cons.1 hb with rfl|hb
    ·exact Qk9 h1
    ·exact Qck (Qk9 h1) (hr b hb)
   ·rw[if_neg h1];refine Qrc (Qo8 (Qiy hs)) (fun b hb=> ?_);rcases Qx5 hb with rfl|hb
    ·rcases Qbw x b with h3|h3|h3<;>omega
    ·exact hr b hb
theorem Quj:∀(l:List Mk) (m x:Mk),Qc5 (Qmf l m) x=(Qc5 l x ||decide (Qau m x=0))
 | [],m,x=>by simp[Qmf,Qc5]
 |y::r,m,x=>by
  rw[Qe9];split
  ·rename_i h0
   rw[ordM_zero] at h0;subst h0;rw[Qfz];cases decide (Qau y x=0)<;>simp
  ·split
   ·rw[Qfz,Bool.or_comm]
   ·rw[Qfz,Qfz,Quj r m x,Bool.or_assoc]
theorem Qx4:∀(l:List Mk) (m:Mk),(Qmf l m).length≤l.length+1
 | [],m=>by simp[Qmf]
 |x::r,m=>by
  rw[Qe9];split
  ·simp
  ·split
   ·simp
   ·have:=Qx4 r m;simp;omega
def Qc9 (l:List Mk) (ms:List Mk):List Mk:=ms.foldl Qmf l
theorem Qzy {l ms:List Mk} {k:Nat} {m:Mk} (h:ms[k]?=some m):Qc9 l (ms.take (k+1))=Qmf (Qc9 l (ms.take k)) m:=by
 obtain⟨h1,h2⟩:=List.getElem?_eq_some_iff.1 h;unfold Qc9;rw[List.take_succ_eq_append_getElem h1,h2,List.foldl_append];rfl
theorem Qgj:∀{ms l:List Mk},Qca l→Qca (Qc9 l ms)
 | [],l,h=>h
 |m::ms,l,h=>Qgj (ms:=ms) (Qo8 h)
theorem Qpa:∀(ms l:List Mk),(Qc9 l ms).length≤l.length+ms.length
 | [],l=>by simp[Qc9]
 |m::ms,l=>by
  have h1:=Qpa ms (Qmf l m);have h2:=Qx4 l m;have e:Qc9 l (m::ms)=Qc9 (Qmf l m) ms:=rfl;rw[e,List.length_cons];omega
def Q40 (l:List Mk) (m:Mk) (k:Nat) (out:List Mk) (put:Bool):Prop:=
 out++(if put=true then l.drop k else Qmf (l.drop k) m)=Qmf l m∧out.length≤k+1∧(put=false→out.length≤k)
theorem Qyw (l:List Mk) (m:Mk):Q40 l m 0 [] false:=⟨sI,sI,sI⟩
theorem Q5s {l:List Mk} {m x:Mk} {k:Nat} {out:List Mk} (h:Q40 l m k out false) (hx:l[k]?=some x) (h1:Qau x m=1):Q40 l m (k+1) (out++[m]++[x]) true:=by
 obtain⟨e,hl,hl2⟩:=h;rw[Qci hx] at e;refine⟨?_,?_,sI⟩
 ·simp only[if_true];rw[if_neg sI,Qe9,if_neg oM,if_pos h1] at e;rw[←e];simp
 ·have:=hl2 rfl;simp;omega
theorem Q11 {l:List Mk} {m x:Mk} {k:Nat} {out:List Mk} (h:Q40 l m k out false) (hx:l[k]?=some x) (h0:¬Qau x m=0) (h1:¬Qau x m=1):Q40 l m (k+1) (out++[x]) false:=by
 obtain⟨e,hl,hl2⟩:=h;rw[Qci hx] at e;refine⟨?_,?_,?_⟩
 ·rw[if_neg sI] at e ⊢;rw[Qe9,if_neg h0,if_neg h1] at e;rw[←e];simp
 ·have:=hl2 rfl;simp;omega
 ·intro _;have:=hl2 rfl;simp;omega
theorem Q5t {l:List Mk} {m x:Mk} {k:Nat} {out:List Mk} (h:Q40 l m k out true) (hx:l[k]?=some x):Q40 l m (k+1) (out++[x]) true:=by
 obtain⟨e,hl,_⟩:=h;rw[Qci hx] at e;refine⟨?_,sP,sI⟩;simp only[if_true] at e ⊢;rw[←e];simp
theorem Q5r {l:List Mk} {m:Mk} {out:List Mk} {put:Bool} (h:Q40 l m l.length out put):(if put=true then out else out++[m])=Qmf l m:=by
 obtain⟨e,_⟩:=h;rw[List.drop_length] at e;cases put
 ·simpa [Qmf] using e
 ·simpa using e
theorem Q9n {l:List Mk} {m x:Mk} {k:Nat} (h:Qc5 l m=false) (hx:l[k]?=some x):¬Qau x m=0:=by
 have:=List.any_eq_false.1 h x (List.mem_of_getElem? hx);simpa using this
def Q8f (g:List Mk) (l:List At) (a:At):List At:=if Qc5 g a.1=true then l else Qh3 l a
def Qd7 (g:List Mk) (l m:List At):List At:=m.foldl (Q8f g) l
theorem Qzz {g:List Mk} {l m:List At} {k:Nat} {a:At} (h:m[k]?=some a):Qd7 g l (m.take (k+1))=Q8f g (Qd7 g l (m.take k)) a:=by
 obtain⟨h1,h2⟩:=List.getElem?_eq_some_iff.1 h;unfold Qd7;rw[List.take_succ_eq_append_getElem h1,h2,List.foldl_append];rfl
theorem Qeu (g:List Mk):∀(m l:List At),Qd7 g l m=Qcf l (m.filter fun a=> !Qc5 g a.1)
 | [],l=>rfl
 |a::m,l=>by
  have e:Qd7 g l (a::m)=Qd7 g (Q8f g l a) m:=rfl;rw[e,Qeu g m,List.filter_cons];unfold Q8f;cases Qc5 g a.1<;>simp[Qcf]
theorem Qpb {g:List Mk} {m l:List At} (h:Qec l) (hm:∀a∈m,Qaf a.1=0∧Qdm a.2=true):Qec (Qd7 g l m):=by
 rw[Qeu];exact Qio h (fun a ha=>hm a (List.mem_filter.1 ha).1)
theorem Q3o (g:List Mk) (l m:List At):(Qd7 g l m).length≤l.length+m.length:=by
 rw[Qeu];exact Nat.le_trans (Qi8 _ _) (Nat.add_le_add_left (List.length_filter_le _ _) _)
theorem Qpl {l:List At} {ms:List Mk} (h:Qec l):Qec (Qbb l ms):=by
 obtain⟨hs,ha⟩:=h;refine⟨?_,fun a hm=>ha a (List.mem_filter.1 hm).1⟩;clear ha;induction l with
 |nil=>trivial
 |cons x r ih=>
  unfold Qbb;rw[List.filter_cons];split
  ·exact Qg9 (ih (Qb3 hs)) (fun b hb=>Qcc hs b (List.mem_filter.1 hb).1)
  ·exact ih (Qb3 hs)
def Qbr (m:Mk) (n:Nat):List Mk:=(List.range n).map fun(i:Nat)=>Qar m (i:Int)
def Qbl (d:De):List Mk:=if d.kind=1 then Qbr d.run.1 d.run.2.length else Qbr d.mark d.many.toNat
theorem Qgz (m:Mk) (n:Nat):(Qbr m n).length=n:=by simp[Qbr]
theorem Q37 (l:List At) (ms:List Mk) (m:Mk):Qbb l (ms++[m])=Qbb (Qbb l ms) [m]:=by
 unfold Qbb;rw[List.filter_filter];apply List.filter_congr
 intro a _;simp[Qc5,Bool.and_comm]
theorem Q35 (l:List At):Qbb l []=l:=by simp[Qbb,Qc5]
def Qbp (s:St) (d:De):St:=if d.kind=1 then(Qd7 s.2 s.1 (Qav d.run),s.2) else(Qbb s.1 (Qbl d),Qc9 s.2 (Qbl d))
def Qcb (s:St):Bool:=decide (300<s.1.length) ||decide (600<s.2.length)
def Qfc:St→List De→Option St
 |s,[]=>some s
 |s,d::r=>if Qcb (Qbp s d)=true then none else Qfc (Qbp s d) r
end Go.Proofs.YtgnccjojfebkeaaGreat
namespace Go.Proofs.YtgnccjojfebkeaaGreat
open Go Go.RowKit Go.BigFrame Cp
theorem Qll {F G:Nat→Prop} {w:World} {cs ds:List Value} {a:Mk} (ha:RMk F w cs a) (hb:RMk G w ds a):Calls Tryz.prog 135 #[.agg cs.toArray,.agg ds.toArray] w fun e w'=>e= .returned (.bool true)∧Ext w w':=by
 have h1:=Qjd ha hb;rw[Qub] at h1;exact h1
theorem Zal {p:Prop} (h:p:=by
 rintro w3 ⟨⟨w3x,hx3⟩,rfl⟩;clear hlater;go_wp2_with fail
 go_roundw
 case rel=>exact⟨q+1,oM,by go_num,ext_trans HX.o (ext_trans hw2 hx3)⟩
 case measure=>simp[intOf];omega):p:=h
theorem Zbh {p:Prop} (h:p:=by
 have zW2_0:=zE eW2 b;have zW2_1:=zE eW2 b2;have hw2:=xE wr eW2;clear eW2;refine Qaa fol kR (fun hlater=> ?_);repeat(go_big_quiet_step ((first
   |(go_at_call 135;(with_reducible exact Qah (HSM.o _ (ext_trans hw2 (Later.ext _))))))))
 refine wpQuiet_nil ?_;exact Zal):p:=h
theorem Qlj {F G:Nat→Prop} {w:World} {v u:Value} {l:List At} (h:RSl RAt 3 F w v l) (k:RSl RAt 3 G w u l):
  Calls Tryz.prog 72 #[v,u] w fun e w'=>e= .returned (.bool true)∧Ext w w':=by
 have HL:=hH (fun(W:World) (hx:Ext w W)=>h.ext gAt hx);have HM:=hH (fun(W:World) (hx:Ext w W)=>k.ext gAt hx);obtain⟨a,n,c,rfl⟩:=h.slice;obtain⟨a2,n2,c2,rfl⟩:=k.slice;obtain⟨rfl,hn1,hn2⟩:=h.len;obtain⟨rfl,_,_⟩:=k.len;unfold maxLen at hn2;have q1:l.length≤9223372036854775807:=oM;clear h k hn1 hn2;go_enter Tryz.func72,Tryz.ntmps72;go_wp2
 go_loopw [5] (fun i wr=>∃q:Nat,q≤l.length∧i= .int .i64 q∧Ext w wr) (fun i _=>l.length-(intOf i).toNat)
 case atStart=>exact⟨0,Nat.zero_le _,rfl,ext_refl _⟩
 case round=>
  obtain⟨q,hq,rfl,hx⟩:=hrel;have HX:=hH hx;clear hx;by_cases hlt:q<l.length
  ·obtain⟨b,o,p,d,s,ap,cp,rfl,hb,e1,i1,hp1,y0,y1,y2⟩:=Qcd (HL.o wr HX.o) hlt;obtain⟨b2,o2,p2,d2,s2,ap2,cp2,rfl,hb2,e2,i2,hp2,z0,z1,z2⟩:=Qcd (HM.o wr HX.o) hlt;obtain⟨⟨rfl,rfl⟩,rfl⟩:(p=p2∧d=d2)∧s=s2:=by
    rw[e1] at e2;injection e2 with e2
    injection e2 with e3 e4
    injection e3 with e5 e6
    exact⟨⟨e5,e6⟩,e4⟩
   have HSM:=hH (fun(W:World) (hx:Ext wr W)=>Qll (Qam (hp1.ext Qap hx) i1) (Qam (hp2.ext Qap hx) i2));have t1:(((s.toNat:Nat):Int) !=((s.toNat:Nat):Int))=false:=sI;clear e1 e2 hp1 hp2 i1 i2;go_wp2_with fail
   refine Qad (fun W2 eW2=> ?_);have e0:=rL eW2 ⟨b,o+q * 3,none⟩ (.slice ap p.length cp);have e1:=rL eW2 ⟨b,o+q * 3+1,none⟩ (.int .i64 d);have e2:=rL eW2 ⟨b,o+q * 3+2,none⟩ (.int .u8 s.toNat);have e3:=rL eW2 ⟨b2,o2+q * 3,none⟩ (.slice ap2 p.length cp2);have e4:=rL eW2 ⟨b2,o2+q * 3+1,none⟩ (.int .i64 d);have e5:=rL eW2 ⟨b2,o2+q * 3+2,none⟩ (.int .u8 s.toNat);exact Zbh
  ·go_wp2
   go_ret;exact⟨rfl,HX.o⟩
theorem Qha:∀{l:List Mk},Qca l→∀(j:Nat) (a b:Mk) (i:Nat),i<j→l[i]?=some a→l[j]?=some b→Qau a b= -1
 | [],_,j,a,b,i,_,h,_=>by simp at h
 | [x],_,j,a,b,i,hij,_,h=>by
  cases j with
  |zero=>omega
  |succ j=>simp at h
 |x::y::r,hs,j,a,b,i,hij,h1,h2=>by
  obtain⟨hxy,hr⟩:=hs;cases j with
  |zero=>omega
  |succ j=>
   cases i with
   |succ i=>exact Qha hr j a b i oM (by simpa using h1) (by simpa using h2)
   |zero=>
    have e:x=a:=by simpa using h1
    subst e;have h2':(y::r)[j]?=some b:=by simpa using h2
    cases j with
    |zero=>
     have e:y=b:=by simpa using h2'
     subst e;exact hxy
    |succ j=>exact Qck hxy (Qha hr (j+1) y b 0 oM rfl h2')
theorem Q3l {l:List Mk} {m:Mk} {n:Nat} (hn:n≤l.length) (h1:∀t a,l[t]?=some a→t<n→Qau a m<0) (h2:∀t a,l[t]?=some a→n≤t→¬Qau a m<0):Qd0 l m=n:=by
 unfold Qd0;rw[←List.take_append_drop n l,List.countP_append];have e1:(l.take n).countP (fun a=>decide (Qau a m<0))=(l.take n).length:=by
  exact Zat
 have e2:(l.drop n).countP (fun a=>decide (Qau a m<0))=0:=by
  exact Za4
 rw[e1,e2,List.length_take];omega
def Qhj (l:List Mk) (m:Mk) (i j:Nat):Prop:=i≤j∧j≤l.length∧(∀t a,l[t]?=some a→t<i→Qau a m<0)∧∀t a,l[t]?=some a→j≤t→¬Qau a m<0
theorem Qr2 (l:List Mk) (m:Mk):Qhj l m 0 l.length:=
 ⟨Nat.zero_le _,Nat.le_refl _,fun t a _ h=>by omega,fun t a h ht=>by rw[List.getElem?_eq_none ht] at h;cases h⟩
theorem Qv1 {l:List Mk} {m:Mk} {i j h:Nat} {a:Mk} (hs:Qca l) (hh:Qhj l m i j) (h1:h<j) (e:l[h]?=some a) (ho:Qau a m<0):Qhj l m (h+1) j:=by
 refine⟨oM,hh.2.1,fun t b hb ht=> ?_,hh.2.2.2⟩;by_cases h2:t=h
 ·subst h2;have:a=b:=by rw[e] at hb;simpa using hb
  subst this;exact ho
 ·exact ordM_lt.2 (Qck (Qha hs h b a t oM hb e) (ordM_lt.1 ho))
theorem Qtt {l:List Mk} {m:Mk} {i j h:Nat} {a:Mk} (hs:Qca l) (hh:Qhj l m i j) (h0:i≤h) (h1:h<j) (e:l[h]?=some a) (ho:¬Qau a m<0):Qhj l m i h:=by
 refine⟨h0,by have:=hh.2.1;omega,hh.2.2.1,fun t b hb ht hlt=> ?_⟩;by_cases h2:t=h
 ·subst h2;have:a=b:=by rw[e] at hb;simpa using hb
  subst this;exact ho hlt
 ·exact ho (ordM_lt.2 (Qck (Qha hs t a b h oM e hb) (ordM_lt.1 hlt)))
theorem Qop {l:List Mk} {m:Mk} {i:Nat} (hh:Qhj l m i i):Qd0 l m=i:=Q3l hh.2.1 hh.2.2.1 hh.2.2.2
theorem Q57 {l:List Mk} {m:Mk} {i:Nat} (hh:Qhj l m i i) (h:l.length≤i):Qc5 l m=false:=by
 unfold Qc5;rw[List.any_eq_false];intro a ha;obtain⟨t,ht,e⟩:=List.mem_iff_getElem.1 ha;have:=hh.2.2.1 t a (by rw[List.getElem?_eq_getElem ht,e]) oM;simp;omega
theorem Q2i {l:List Mk} {m:Mk} {i:Nat} {a:Mk} (hs:Qca l) (hh:Qhj l m i i) (e:l[i]?=some a):Qc5 l m=(Qau a m==0):=by
 cases h:(Qau a m==0) with
 |true=>
  unfold Qc5;rw[List.any_eq_true];exact⟨a,List.mem_of_getElem? e,by simpa using h⟩
 |false=>
  unfold Qc5;rw[List.any_eq_false];intro b hb;obtain⟨t,ht,e2⟩:=List.mem_iff_getElem.1 hb;have e3:l[t]?=some b:=by rw[List.getElem?_eq_getElem ht,e2]
  have h0:¬Qau a m=0:=by simpa using h
  have hr:=Qbw a m;have h1:=hh.2.2.2 i a e (Nat.le_refl _);simp only[decide_eq_true_eq];intro hz;have hbm:=ordM_zero.1 hz;rcases Nat.lt_trichotomy t i with hlt|rfl|hgt
  ·have:=hh.2.2.1 t b e3 hlt;omega
  ·rw[e] at e3;have:a=b:=by simpa using e3
   subst this;exact h0 hz
  ·have:=Qha hs t a b i hgt e e3;rw[hbm] at this;omega
theorem Qwr {F G:Nat→Prop} {w:World} {v:Value} {ds:List Value} {l:List Mk} {m:Mk} (hl:RSl RMk 2 F w v l) (hm:RMk G w ds m) (hs:Qca l) (hn:l.length≤1000000):
  Calls Tryz.prog 256 #[v,.agg ds.toArray,.func (.func 220) #[] #[]] w (Qlu (Qd0 l m) (Qc5 l m) w):=by
 obtain⟨a0,n0,c0,rfl⟩:=hl.slice;obtain⟨rfl,_,_⟩:=hl.len;have HMX:=hH (fun(W:World) (hx:Ext w W)=>gMk.ext hm hx);obtain⟨u,rfl,hm,_⟩:=hm;obtain⟨m,d⟩:=m;simp only at hm HMX ⊢;obtain⟨a2,n2,c2,rfl⟩:=hm.slice;have HL:=hH hl;have HS:=hH hs;clear hl hm hs;go_enter Tryz.func256,Tryz.ntmps256;go_wp2
 go_loopw [9,10] (fun iv jv wr=>∃i j:Nat,i≤j∧j≤l.length∧iv= .int .i64 i∧jv= .int .i64 j∧Hid (Qhj l (m,d) i j)∧Ext (w.alloc (.cells #[.slice a2 n2 c2,.int .i64 d] 103)) wr) (fun iv jv _=>(intOf jv).toNat-(intOf iv).toNat)
 case atStart=>exact⟨0,l.length,Nat.zero_le _,Nat.le_refl _,rfl,rfl,hH (Qr2 _ _),ext_refl _⟩
 case round=>
  obtain⟨i,j,hij,hjl,rfl,rfl,HH,hx⟩:=hrel;have hw:Ext w wr:=ext_trans (ext_alloc (ext_refl _) _) hx;have z1:wr.cell? ⟨w.heap.size,0,none⟩=some (.slice a2 n2 c2):=(hx.cells _ _ sO).trans gS;have z2:wr.cell? ⟨w.heap.size,1,none⟩=some (.int .i64 d):=(hx.cells _ _ sO).trans gS;have hsz:=hx.size
  (try simp at hsz)
  have hbz:w.heap.size<wr.heap.size:=oM;have HX:=hH hx;have HW:=hH hw;clear hx hw;by_cases hlt:i<j
  ·obtain⟨h,hh⟩:∃h:Nat,h=(i+j) / 2:=⟨_,rfl⟩;have hlo:i≤h:=oM;have hhi:h<j:=oM;have hhl:h<l.length:=oM;have hsh:(((i:Int)+(j:Int)) >>> 1)=(h:Int):=by rw[Int.shiftRight_eq_div_pow];omega
   have hsn:(i+j) >>> 1=h:=by rw[Nat.shiftRight_eq_div_pow];omega
   have hq2:((i:Int)+(j:Int)) / 2=(h:Int):=oM;have HHH:=hH hh;clear hh;obtain⟨b,o,p,c,ap,cp,rfl,hb,ek,ick,hpp,y0,y1⟩:=Qc7 (HL.o.ext gMk HW.o) hhl;have HCM:=hH (fun(W:World) (hx:Ext wr W)=>Qf2 (Qam (hpp.ext Qap hx) ick) (HMX.o W (ext_trans HW.o hx)));have HEK:=hH ek;clear hpp ick ek;by_cases g:Qau (p,c) (m,d)<0
   ·have HF:=hH (Qv1 HS.o HH.o hhi HEK.o g);have t1:decide (Qau (p,c) (m,d)<0)=true:=decide_eq_true g;generalize Qau (p,c) (m,d)=od at *;clear g;go_wp2_with fail
    refine Qad (fun W2 eW2=> ?_);obtain⟨e0,e1⟩:=rR2 eW2 w.heap.size (.slice a2 n2 c2) (.int .i64 d);have e2:=rL eW2 ⟨b,o+h * 2,none⟩ (.slice ap p.length cp);have e3:=rL eW2 ⟨b,o+h * 2+1,none⟩ (.int .i64 c);have zW2_0:=zE eW2 b;have zW2_1:=zE eW2 w.heap.size;have hw2:=xE wr eW2;clear eW2;refine Qaa fol kR (fun hlater=> ?_);repeat(go_big_quiet_step ((first
      |(go_at_call 220;(with_reducible exact Qah (HCM.o _ (ext_trans hw2 (Later.ext _))))))))
    refine wpQuiet_nil ?_;exact Za0
   ·have HF:=hH (Qtt HS.o HH.o hlo hhi HEK.o g);have t1:decide (Qau (p,c) (m,d)<0)=false:=decide_eq_false g;generalize Qau (p,c) (m,d)=od at *;clear g;go_wp2_with fail
    refine Qad (fun W2 eW2=> ?_);obtain⟨e0,e1⟩:=rR2 eW2 w.heap.size (.slice a2 n2 c2) (.int .i64 d);have e2:=rL eW2 ⟨b,o+h * 2,none⟩ (.slice ap p.length cp);have e3:=rL eW2 ⟨b,o+h * 2+1,none⟩ (.int .i64 c);have zW2_0:=zE eW2 b;have zW2_1:=zE eW2 w.heap.size;have hw2:=xE wr eW2;clear eW2;refine Qaa fol kR (fun hlater=> ?_);repeat(go_big_quiet_step ((first
      |(go_at_call 220;(with_reducible exact Qah (HCM.o _ (ext_trans hw2 (Later.ext _))))))))
    refine wpQuiet_nil ?_;exact Za2
  ·have hji:j=i:=oM;subst hji;by_cases hin:j<l.length
   ·obtain⟨b,o,p,c,ap,cp,rfl,hb,ek,ick,hpp,y0,y1⟩:=Qc7 (HL.o.ext gMk HW.o) hin;have HCM:=hH (fun(W:World) (hx:Ext wr W)=>Qf2 (Qam (hpp.ext Qap hx) ick) (HMX.o W (ext_trans HW.o hx)));have HF:=hH (Q2i HS.o HH.o ek);have t2:decide ((j:Int)<(l.length:Int))=true:=decide_eq_true oM;have t3:decide (j<l.length)=true:=decide_eq_true oM;clear hpp ick ek;generalize Qau (p,c) (m,d)=od at *;go_wp2_with fail
    refine Qad (fun W2 eW2=> ?_);obtain⟨e0,e1⟩:=rR2 eW2 w.heap.size (.slice a2 n2 c2) (.int .i64 d);have e2:=rL eW2 ⟨b,o+j * 2,none⟩ (.slice ap p.length cp);have e3:=rL eW2 ⟨b,o+j * 2+1,none⟩ (.int .i64 c);have zW2_0:=zE eW2 b;have zW2_1:=zE eW2 w.heap.size;have hw2:=xE wr eW2;clear eW2;refine Qaa fol kR (fun hlater=> ?_);repeat(go_big_quiet_step ((first
      |(go_at_call 220;(with_reducible exact Qah (HCM.o _ (ext_trans hw2 (Later.ext _))))))))
    refine wpQuiet_nil ?_;rintro w3 ⟨⟨w3x,hx3⟩,rfl⟩;clear hlater;go_wp2_with fail
    refine bodyPost_ret (v:= .tuple #[.int .i64 (j:Nat),.bool (od==0)]) (by simp[results,Tryz.results256,go_sem]) rfl ⟨by rw[Qop HH.o,HF.o],ext_trans HW.o (ext_trans hw2 hx3)⟩
   ·have HF:=hH (Q57 HH.o oM);have t2:decide ((j:Int)<(l.length:Int))=false:=decide_eq_false oM;have t3:decide (j<l.length)=false:=decide_eq_false oM;go_wp2_with fail
    refine Qad (fun W2 eW2=> ?_);obtain⟨e0,e1⟩:=rR2 eW2 w.heap.size (.slice a2 n2 c2) (.int .i64 d);have zW2_0:=zE eW2 w.heap.size;have hw2:=xE wr eW2;clear eW2;refine Qaa fol kR (fun hlater=> ?_);repeat(go_big_quiet_step ((fail)))
    refine wpQuiet_nil ?_;rintro w3 ⟨⟨w3x,hx3⟩,rfl⟩;clear hlater;go_wp2_with fail
    refine bodyPost_ret (v:= .tuple #[.int .i64 (j:Nat),.bool false]) (by simp[results,Tryz.results256,go_sem]) rfl ⟨by rw[Qop HH.o,HF.o],ext_trans HW.o (ext_trans hw2 hx3)⟩
end Go.Proofs.YtgnccjojfebkeaaGreat
namespace Cp
open Go Go.RowKit
theorem Quw {P:Program} {o:Oper} {a:Act} {w:World} {K:Act→Prop} (h:o.quiet P a (fun W=>W=w) K):o.still P a w K:=by
 obtain⟨v,h1,h2⟩:=h;have h3:=h1 w rfl;unfold Oper.quietAt at h3;unfold Oper.still;generalize (execOp a.eval o).run P w=r at h3 ⊢;cases r with
 |halt x w'=>exact h3.elim
 |ok n w'=>
  cases n with
  |value u=>exact⟨h3.1,by rw[h3.2];exact h2⟩
  |skip=>exact⟨h3.1,by rw[←h3.2];exact h2⟩
  |enter f args=>exact⟨h3.1,v,h3.2,h2⟩
  |_=>exact h3.elim
theorem Qgs {P:Program} {ops:Array Oper} {w:World} {Q:Act→Prop}:∀{l:List Oper} {a:Act},wpQuiet P ops (fun W=>W=w) Q l a→wpStill P ops w Q l a
 | [],_,h=>h
 |o::l,a,h=>by
  unfold wpQuiet at h;unfold wpStill;by_cases hw:Region.wanted o (yielded ops a.tmps)=true
  ·rw[if_pos hw] at h ⊢;obtain⟨v,h1,h2⟩:=h;exact Quw ⟨v,h1,Qgs h2⟩
  ·rw[if_neg hw] at h ⊢;exact Qgs h
theorem Qa4 {P:Program} {id:Nat} {Q:Exit→Act→World→Prop} {a:Act} {w:World} {l:List Oper} (n:Nat) (hm:P.follows .mixedOrders=true) (hB:Region.lexTailB .any l.toArray n=true)
  (h:∀W,W=w.drew→wpQuiet P l.toArray (fun W'=>W'=W) (fun a'=>wpList P l.toArray Q (l.drop n) a' W) (l.take n) a):(Code.region id l.toArray true).wp P Q a w:=
 Qhb n hm hB (Qgs (h _ rfl))
end Cp
namespace Go.Proofs.YtgnccjojfebkeaaGreat
open Go Go.RowKit Go.BigFrame Cp
theorem Qxj {p:Prop} (h:p:=by
 go_enter Tryz.func182,Tryz.ntmps182;go_wp2_with (go_at_call 219;go_must ((with_reducible refine(HC.o _ Qac).mono ?_);rintro e w1 ⟨rfl,hx1⟩;obtain⟨x0,x1⟩:=cC2 hx1 w.heap.size (.slice a0 la.length c0) (.slice a1 lg.length c1);have hz1:=hx1.size;(try simp at hz1);have hb1:=zL hx1 w.heap.size;have hw1:Ext w w1:=(ext_trans (ext_alloc (ext_refl _) _) hx1)))
 go_ret;exact⟨rfl,hw1⟩):p:=h
theorem Zah {p:Prop} (h:p:=by
 rintro w3 ⟨⟨w3x,hx3⟩,rfl⟩;clear hlater;have x5:=hx3.cells;have u0:=(hx3.cells (w.heap.size) (0) oM).trans e0;have u1:=(hx3.cells (w.heap.size) (1) oM).trans e1;have u2:=(hx3.cells (b) (o+k * 2) oM).trans e2;have u3:=(hx3.cells (b) (o+k * 2+1) oM).trans e3;have u4:=(hx3.cells (wr.heap.size) (0) oM).trans e4;have u5:=(hx3.cells (wr.heap.size) (1) oM).trans e5;have hz3:=hx3.size;have hw3:Ext wr w3:=ext_trans hw2 hx3;clear x5;have HFD:=hH (fun(W:World) (hx:Ext wr W)=>Qkq (HA.o W (ext_trans HX.o hx)) (HPX.o W hx) HOK.o.2.1 oM);cases g5:Qel la (p,c) with
 |true=>
  rw[g5] at HFD;have HF2:=hH (HF.o.trans (by rw[if_pos g5]));generalize Qcv la (p,c)=pl at *;go_wp2_with (go_at_call 221;go_must ((with_reducible refine(HFD.o _ (ext_trans hw3 Qac)).mono ?_);rintro e w4 ⟨rfl,hx4⟩))
  go_ret;exact⟨ri HF2.o.symm,ext_trans HX.o (ext_trans hw3 hx4)⟩
 |false=>
  rw[g5] at HFD;have HF2:=hH (HF.o.trans (by rw[if_neg (by rw[g5];simp)]));generalize Qcv la (p,c)=pl at *;go_wp2_with (go_at_call 221;go_must ((with_reducible refine(HFD.o _ (ext_trans hw3 Qac)).mono ?_);rintro e w4 ⟨rfl,hx4⟩))
  go_roundw
  case rel=>exact⟨k+1,oM,by go_num,HF2,ext_trans HXR.o (ext_trans hw3 hx4)⟩
  case measure=>simp[intOf];omega):p:=h
theorem Qeg {F:Nat→Prop} {w:World} {cs:List Value} {s:St} (h:RSt F w cs s):
  Calls Tryz.prog 182 #[.agg cs.toArray] w fun e w'=>e= .returned (.int .i64 (Qax s))∧Ext w w':=by
 obtain⟨va,vg,rfl,ha,hg⟩:=h;obtain⟨la,lg⟩:=s;simp only at ha hg ⊢;have HC:=hH (fun(W:World) (hx:Ext w W)=>Qn8 (ha.ext gAt hx));have HA:=hH (fun(W:World) (hx:Ext w W)=>ha.ext gAt hx);have HG:=hH (fun(W:World) (hx:Ext w W)=>hg.ext gMk hx);obtain⟨a0,n0,c0,rfl⟩:=ha.slice;obtain⟨rfl,_,_⟩:=ha.len;obtain⟨a1,n1,c1,rfl⟩:=hg.slice;obtain⟨rfl,hn1,hn2⟩:=hg.len;unfold maxLen at hn2;have q1:lg.length≤9223372036854775807:=oM;clear hn1 hn2 ha hg;by_cases h0:Qb0 la=0
 ·have HOK:=hH (Qd4 h0);rw[h0] at HC;have hal:=HOK.o.1;by_cases hm:600<lg.length
  ·rw[Qog h0 hm];clear h0;exact Qxj
  ·have HM:=hH (Qqe h0 hm);clear h0;go_enter Tryz.func182,Tryz.ntmps182;go_wp2_with (go_at_call 219;go_must ((with_reducible refine(HC.o _ Qac).mono ?_);rintro e w1 ⟨rfl,hx1⟩;obtain⟨x0,x1⟩:=cC2 hx1 w.heap.size (.slice a0 la.length c0) (.slice a1 lg.length c1);have hz1:=hx1.size;(try simp at hz1);have hb1:=zL hx1 w.heap.size;have hw1:Ext w w1:=(ext_trans (ext_alloc (ext_refl _) _) hx1)))
   have HW1:=hH hw1;clear hx1 hw1;go_loopw [22] (fun i wr=>∃k:Nat,k≤lg.length∧i= .int .i64 k∧Hid (Qax (la,lg)=Qc1 la (Qme lg k) (lg.drop k))∧Ext w1 wr) (fun i _=>lg.length-(intOf i).toNat)
   case atStart=>exact⟨0,Nat.zero_le _,rfl,HM,ext_refl _⟩
   case round=>
    obtain⟨k,hk,rfl,HI,hx⟩:=hrel;obtain⟨z0,z1⟩:=tT2 hx hb1 x0 x1;have hzr:=hx.size;have hbr:w.heap.size<wr.heap.size:=oM;have HX:=hH (ext_trans HW1.o hx);have HXR:=hH hx;clear hx;by_cases hlt:k<lg.length
    ·obtain⟨b,o,p,c,ap,cp,rfl,hb,ek,ick,hpp,y0,y1⟩:=Qc7 (HG.o wr HX.o) hlt;have HPX:=hH (fun(W:World) (hx:Ext wr W)=>(Qam (hpp.ext Qap hx) ick));have HCM:=hH (fun(W:World) (hx:Ext wr W)=>Qe4 (HPX.o W hx));have HEK:=hH ek;have hn1:¬b=wr.heap.size:=oM;have hn2:¬wr.heap.size=b:=oM;have hn3:¬w.heap.size=wr.heap.size:=oM;have hn4:¬wr.heap.size=w.heap.size:=oM;clear hpp ick ek;by_cases g1:Qaf (p,c)=0
     ·have HG1:=hH g1;rw[g1] at HCM;clear g1;go_wp2_with (go_at_call 191;go_must ((with_reducible refine(HCM.o _ Qac).mono ?_);rintro e w2 ⟨rfl,hx2⟩;obtain⟨v0,v1⟩:=cC2 hx2 (w.heap.size) (.slice a0 la.length c0) (.slice (some ⟨b,o,none⟩) lg.length c1);have v2:=cL hx2 (b) (o+k * 2) (.slice ap p.length cp);have v3:=cL hx2 (b) (o+k * 2+1) (.int .i64 c);obtain⟨v4,v5⟩:=cC2 hx2 (wr.heap.size) (.slice ap p.length cp) (.int .i64 c);have hz2:=hx2.size;(try simp at hz2);have HX2:=hH hx2;clear hx2))
      have hb2:w.heap.size<w2.heap.size:=oM;have hb3:b<w2.heap.size:=oM;have hb4:wr.heap.size<w2.heap.size:=oM;by_cases hk0:k=0
      ·have t8:decide (0<(k:Int))=false:=decide_eq_false oM;have t8b:decide (0<k)=false:=decide_eq_false oM;have HF:=hH (HI.o.trans (Qkf (ats:=la) HEK.o HG1.o hk0));clear hk0;refine Qad (fun W2 eW2=> ?_);obtain⟨e0,e1⟩:=rR2 eW2 w.heap.size (.slice a0 la.length c0) (.slice (some ⟨b,o,none⟩) lg.length c1);have e2:=rL eW2 ⟨b,o+k * 2,none⟩ (.slice ap p.length cp);have e3:=rL eW2 ⟨b,o+k * 2+1,none⟩ (.int .i64 c);obtain⟨e4,e5⟩:=rR2 eW2 wr.heap.size (.slice ap p.length cp) (.int .i64 c);have zW2_0:=zE eW2 w.heap.size;have zW2_1:=zE eW2 b;have zW2_2:=zE eW2 wr.heap.size;have hw2:Ext wr W2:=by rw[eW2];exact ext_trans (ext_alloc (ext_refl _) _) (ext_trans HX2.o Qac)
       clear eW2;refine Qaa fol kR (fun hlater=> ?_);repeat(go_big_quiet_step ((fail)))
       refine wpQuiet_nil ?_;exact Zah
      ·have hk1:0<k:=oM;have t8:decide (0<(k:Int))=true:=decide_eq_true oM;have t8b:decide (0<k)=true:=decide_eq_true oM;clear hk0;obtain⟨b',o',p1,d1,ap1,cp1,ea,_,ek1,ic1,hp1,u0,u1⟩:=Qc7 (HG.o wr HX.o) (i:=k-1) oM;obtain⟨rfl,rfl⟩:b=b'∧o=o':=by injection ea with ea;injection ea with ea1 ea2;exact⟨ea1,ea2⟩
       clear ea;have HP1:=hH (fun(W:World) (hx:Ext wr W)=>(Qam (hp1.ext Qap hx) ic1));have HOR:=hH (fun(W:World) (hx:Ext wr W)=>Qf2 (HP1.o W hx) (HPX.o W hx));have HE1:=hH ek1;clear hp1 ic1 ek1;have x6:=cL HX2.o b (o+(k-1) * 2) (.slice ap1 p1.length cp1);have x7:=cL HX2.o b (o+(k-1) * 2+1) (.int .i64 d1);by_cases g4:0≤Qau (p1,d1) (p,c)
       ·have HF:=hH (HI.o.trans (Qn9 (ats:=la) HEK.o HE1.o hk1 HG1.o g4));have t9:decide (0≤Qau (p1,d1) (p,c))=true:=decide_eq_true g4;generalize Qau (p1,d1) (p,c)=od at *;clear g4 HE1;refine Qad (fun W2 eW2=> ?_);obtain⟨e0,e1⟩:=rR2 eW2 w.heap.size (.slice a0 la.length c0) (.slice (some ⟨b,o,none⟩) lg.length c1);have e2:=rL eW2 ⟨b,o+k * 2,none⟩ (.slice ap p.length cp);have e3:=rL eW2 ⟨b,o+k * 2+1,none⟩ (.int .i64 c);obtain⟨e4,e5⟩:=rR2 eW2 wr.heap.size (.slice ap p.length cp) (.int .i64 c);have e6:=rL eW2 ⟨b,o+(k-1) * 2,none⟩ (.slice ap1 p1.length cp1);have e7:=rL eW2 ⟨b,o+(k-1) * 2+1,none⟩ (.int .i64 d1);have zW2_0:=zE eW2 w.heap.size;have zW2_1:=zE eW2 b;have zW2_2:=zE eW2 wr.heap.size;have hw2:Ext wr W2:=by rw[eW2];exact ext_trans (ext_alloc (ext_refl _) _) (ext_trans HX2.o Qac)
        clear eW2;refine Qaa fol kR (fun hlater=> ?_);repeat(go_big_quiet_step ((first
          |(go_at_call 220;(with_reducible exact Qah (HOR.o _ (ext_trans hw2 (Later.ext _))))))))
        refine wpQuiet_nil ?_;rintro w3 ⟨⟨w3x,hx3⟩,rfl⟩;clear hlater;go_wp2_with fail
        go_ret;exact⟨ri HF.o.symm,ext_trans HX.o (ext_trans hw2 hx3)⟩
       ·have HF:=hH (HI.o.trans (Qmq (ats:=la) HEK.o HE1.o hk1 HG1.o g4));have t9:decide (0≤Qau (p1,d1) (p,c))=false:=decide_eq_false g4;generalize Qau (p1,d1) (p,c)=od at *;clear g4 HE1;refine Qad (fun W2 eW2=> ?_);obtain⟨e0,e1⟩:=rR2 eW2 w.heap.size (.slice a0 la.length c0) (.slice (some ⟨b,o,none⟩) lg.length c1);have e2:=rL eW2 ⟨b,o+k * 2,none⟩ (.slice ap p.length cp);have e3:=rL eW2 ⟨b,o+k * 2+1,none⟩ (.int .i64 c);obtain⟨e4,e5⟩:=rR2 eW2 wr.heap.size (.slice ap p.length cp) (.int .i64 c);have e6:=rL eW2 ⟨b,o+(k-1) * 2,none⟩ (.slice ap1 p1.length cp1);have e7:=rL eW2 ⟨b,o+(k-1) * 2+1,none⟩ (.int .i64 d1);have zW2_0:=zE eW2 w.heap.size;have zW2_1:=zE eW2 b;have zW2_2:=zE eW2 wr.heap.size;have hw2:Ext wr W2:=by rw[eW2];exact ext_trans (ext_alloc (ext_refl _) _) (ext_trans HX2.o Qac)
        clear eW2;refine Qaa fol kR (fun hlater=> ?_);repeat(go_big_quiet_step ((first
          |(go_at_call 220;(with_reducible exact Qah (HOR.o _ (ext_trans hw2 (Later.ext _))))))))
        refine wpQuiet_nil ?_;exact Zah
     ·have HF:=hH (HI.o.trans (Qmp HEK.o g1));have t1:(Qaf (p,c) !=0)=true:=by simpa using g1
      generalize Qaf (p,c)=m at *;clear g1;go_wp2_with (go_at_call 191;go_must ((with_reducible refine(HCM.o _ Qac).mono ?_);rintro e w2 ⟨rfl,hx2⟩;obtain⟨v0,v1⟩:=cC2 hx2 (w.heap.size) (.slice a0 la.length c0) (.slice (some ⟨b,o,none⟩) lg.length c1);have v2:=cL hx2 (b) (o+k * 2) (.slice ap p.length cp);have v3:=cL hx2 (b) (o+k * 2+1) (.int .i64 c);obtain⟨v4,v5⟩:=cC2 hx2 (wr.heap.size) (.slice ap p.length cp) (.int .i64 c);have hz2:=hx2.size;(try simp at hz2);have HX2:=hH hx2;clear hx2))
      go_ret;exact⟨ri HF.o.symm,ext_trans HX.o (ext_trans (ext_alloc (ext_refl _) _) HX2.o)⟩
    ·go_wp2
     go_ret;exact⟨ri (by rw[HI.o,Qoa oM]),HX.o⟩
 ·rw[Qmt h0];have t1:(Qb0 la !=0)=true:=by simpa using h0
  generalize Qb0 la=r at *;clear h0;exact Qxj
end Go.Proofs.YtgnccjojfebkeaaGreat
namespace Go.Proofs.YtgnccjojfebkeaaGreat
open Go Go.RowKit Cp
theorem Qqq (a m n:Int) (w:World) (ha:I64 a) (hm:I64 m) (hn:0≤n∧n≤1000):
  Calls Tryz.prog 206 #[.int .i64 a,.int .i64 m,.int .i64 n] w fun e w'=>e= .returned (.bool (Qb8 a m n))∧w=w':=by
 obtain⟨a1,a2⟩:=ha;obtain⟨m1,m2⟩:=hm;obtain⟨n1,n2⟩:=hn;by_cases h1:0≤a
 ·by_cases h2:0≤m
  ·by_cases h3:a≤n
   ·have e1:Qb8 a m n=decide (m≤n-a):=by unfold Qb8;rw[decide_eq_true h1,decide_eq_true h2,decide_eq_true h3];rfl
    rw[e1];clear e1;go_enter Tryz.func206,Tryz.ntmps206;go_wp2
    go_ret;exact⟨rfl,rfl⟩
   ·have e1:Qb8 a m n=false:=by unfold Qb8;rw[decide_eq_false h3];simp
    rw[e1];clear e1;go_enter Tryz.func206,Tryz.ntmps206;go_wp2
    go_ret;exact⟨rfl,rfl⟩
  ·have e1:Qb8 a m n=false:=by unfold Qb8;rw[decide_eq_false h2];simp
   rw[e1];clear e1;go_enter Tryz.func206,Tryz.ntmps206;go_wp2
   go_ret;exact⟨rfl,rfl⟩
 ·have e1:Qb8 a m n=false:=by unfold Qb8;rw[decide_eq_false h1];simp
  rw[e1];clear e1;go_enter Tryz.func206,Tryz.ntmps206;go_wp2
  go_ret;exact⟨rfl,rfl⟩
end Go.Proofs.YtgnccjojfebkeaaGreat
namespace Go.Proofs.YtgnccjojfebkeaaGreat
open Go Go.RowKit Go.BigFrame Cp
def Qb2 (site clock:Int) (m:Mk):Bool:=(Qbq m.1==site) && decide (clock≤m.2)
def Qjq (g:Nat) (n:Int) (w:World):Prop:=w.cell? ⟨g,0,none⟩=some (.int .i64 n)∧g<w.heap.size
theorem Qgv {g:Nat} {n:Int} {w W:World} (h:Qjq g n w) (hx:Ext w W):Qjq g n W:=⟨(hx.cells _ _ h.2).trans h.1,Nat.lt_of_lt_of_le h.2 hx.size⟩
def Vai (r g k:Nat) (w:World):Prop:=w.cell? ⟨r,0,none⟩=some (.func (.func 204) #[] #[.pointer (some ⟨g,0,none⟩),.pointer (some ⟨k,0,none⟩)])∧r<w.heap.size
theorem Q5d {r g k:Nat} {w W:World} (h:Vai r g k w) (hx:Ext w W):Vai r g k W:=⟨(hx.cells _ _ h.2).trans h.1,Nat.lt_of_lt_of_le h.2 hx.size⟩
theorem Qug {m:Mk} (h:Qaf m=0):∃k:Nat,m.1.length=k+1∧k≤9:=by
 have h1:=checkM_ok.1 h;have h2:=List.length_pos_iff.2 h1.2.1;exact⟨m.1.length-1,oM,oM⟩
theorem Qig {l:List Stp} {k:Nat} {x y:Int} (hl:l.length=k+1) (h:l[k]?=some (x,y)):Qbq l=y:=Qwb (by rw[hl];exact h)
theorem Qgf {F:Nat→Prop} {w:World} {cs:List Value} {m:Mk} (h:RMk F w cs m) (hc:Qaf m=0):
  Calls Tryz.prog 115 #[.agg cs.toArray] w fun e w'=>e= .returned (.int .i64 (Qbq m.1))∧Ext w w':=by
 obtain⟨v,rfl,hl,_⟩:=h;obtain⟨l,c⟩:=m;simp only at hl ⊢;obtain⟨a,n,c1,rfl⟩:=hl.slice;obtain rfl:n=l.length:=hl.len.1;obtain⟨k,hk,hk9⟩:=Qug hc;simp only at hk;rw[hk] at hl ⊢;obtain⟨b,o,x,y,rfl,hb,ek,_,_,y0,y1⟩:=Qfb hl (Nat.lt_succ_self k);rw[Qig hk ek];have hbn:¬b=w.heap.size:=oM;clear hl ek hc hk;go_enter Tryz.func115,Tryz.ntmps115;go_wp2_with fail
 go_ret;exact⟨rfl,Qac⟩
theorem Q2t {F:Nat→Prop} {w:World} {cs:List Value} {m:Mk} {site clock:Int} (h:RMk F w cs m) (hc:Qaf m=0):
  Calls Tryz.prog 205 #[.agg cs.toArray,.int .i64 site,.int .i64 clock] w fun e w'=>e= .returned (.bool (Qb2 site clock m))∧Ext w w':=by
 obtain⟨v,rfl,hl,_⟩:=h;obtain⟨l,c⟩:=m;simp only at hl ⊢;obtain⟨a,n,c1,rfl⟩:=hl.slice;obtain rfl:n=l.length:=hl.len.1;obtain⟨k,hk,hk9⟩:=Qug hc;simp only at hk;rw[hk] at hl ⊢;obtain⟨b,o,x,y,rfl,hb,ek,_,_,y0,y1⟩:=Qfb hl (Nat.lt_succ_self k);have e:Qb2 site clock (l,c)=((y==site) && decide (clock≤c)):=by unfold Qb2;rw[Qig hk ek]
 rw[e];have hbn:¬b=w.heap.size:=oM;clear hl ek hc hk e;cases t1:(y==site) with
 |true=>
  obtain rfl:y=site:=by simpa using t1
  cases t2:decide (clock≤c) with
  |true=>
   go_enter Tryz.func205,Tryz.ntmps205;go_wp2_with fail
   go_ret;exact⟨rfl,Qac⟩
  |false=>
   go_enter Tryz.func205,Tryz.ntmps205;go_wp2_with fail
   go_ret;exact⟨rfl,Qac⟩
 |false=>
  go_enter Tryz.func205,Tryz.ntmps205;go_wp2_with fail
  go_ret;exact⟨rfl,Qac⟩
theorem Qxz {F:Nat→Prop} {w:World} {cs:List Value} {m:Mk} {site clock:Int} {g k:Nat} (h:RMk F w cs m) (hc:Qaf m=0) (hg:Qjq g site w) (hk:Qjq k clock w):
  Calls Tryz.prog 204 #[.agg cs.toArray,.pointer (some ⟨g,0,none⟩),.pointer (some ⟨k,0,none⟩)] w fun e w'=>e= .returned (.bool (Qb2 site clock m))∧Ext w w':=by
 have HL:=hH (fun(W:World) (hx:Ext w W)=>Q2t (site:=site) (clock:=clock) (gMk.ext h hx) hc);obtain⟨g0,g1⟩:=hg;obtain⟨k0,k1⟩:=hk;obtain⟨v,rfl,hl,_⟩:=h;obtain⟨a,n,c,rfl⟩:=hl.slice;have hgn:¬g=w.heap.size:=oM;have hkn:¬k=w.heap.size:=oM;clear hl hc;go_enter Tryz.func204,Tryz.ntmps204;go_wp2_with (first|(go_at_call 205;go_must ((with_reducible refine(HL.o _ Qac).mono ?_);rintro e w1 ⟨rfl,hx1⟩;skip)))
 go_ret;exact⟨rfl,Qac⟩
theorem Q63 {F:Nat→Prop} {w:World} {cs:List Value} {a:At} {site clock:Int} {g k r:Nat} (h:RAt F w cs a) (hc:Qaf a.1=0) (hg:Qjq g site w) (hk:Qjq k clock w) (hr:Vai r g k w):
  Calls Tryz.prog 209 #[.agg cs.toArray,.pointer (some ⟨r,0,none⟩)] w fun e w'=>e= .returned (.bool (Qb2 site clock a.1))∧Ext w w':=by
 obtain⟨v,rfl,hl,hi⟩:=h;obtain⟨⟨p,d⟩,s⟩:=a;simp only at hl hi hc ⊢;have HL:=hH (fun(W:World) (hx:Ext w W)=>Qxz (Qam (hl.ext Qap hx) hi) hc (Qgv hg hx) (Qgv hk hx));obtain⟨r0,r1⟩:=hr;obtain⟨aa,n,c,rfl⟩:=hl.slice;have hrn:¬r=w.heap.size:=oM;clear hl hc hg hk;go_enter Tryz.func209,Tryz.ntmps209;go_wp2_with (first|(go_at_call 204;go_must ((with_reducible refine(HL.o _ Qac).mono ?_);rintro e w1 ⟨rfl,hx1⟩;skip)))
 go_ret;exact⟨rfl,Qac⟩
theorem Q2n {F:Nat→Prop} {w:World} {v:Value} {l:List Mk} {site clock:Int} {g k:Nat} (h:RSl RMk 2 F w v l) (hc:∀x∈l,Qaf x=0) (hg:Qjq g site w) (hk:Qjq k clock w):
  Calls Tryz.prog 230 #[v,.func (.func 204) #[] #[.pointer (some ⟨g,0,none⟩),.pointer (some ⟨k,0,none⟩)]] w (Q0q (l.any fun x=>Qb2 site clock x) w):=by
 obtain⟨a1,n1,c1,rfl⟩:=h.slice;obtain⟨rfl,k1,k1'⟩:=h.len;unfold maxLen at k1';have q1:l.length≤9223372036854775807:=oM;clear k1 k1';have HL:=hH h;obtain⟨p,hp⟩:∃p:Mk→Bool,p=fun x=>Qb2 site clock x:=⟨_,rfl⟩
 rw[←hp];have HP:=hH (fun(W:World) (hx:Ext w W) (F':Nat→Prop) (cs:List Value) (x:Mk) (hx':x∈l) (h':RMk F' W cs x)=>(show Calls Tryz.prog 204 #[.agg cs.toArray,.pointer (some ⟨g,0,none⟩),.pointer (some ⟨k,0,none⟩)] W (fun e w'=>e= .returned (.bool (p x))∧Ext W w') from by rw[hp];exact Qxz h' (hc x hx') (Qgv hg hx) (Qgv hk hx)));clear h hg hk hp hc;go_enter Tryz.func230,Tryz.ntmps230;go_wp2
 go_loopw [8] (fun i wr=>∃j:Nat,j≤l.length∧i= .int .i64 j∧Hid ((l.take j).any p=false)∧Ext w wr) (fun i _=>l.length-(intOf i).toNat)
 case atStart=>exact⟨0,oM,rfl,hH sI,ext_refl _⟩
 case round=>
  obtain⟨j,hk1,rfl,ho,hx⟩:=hrel;have HX:=hH hx;clear hx;by_cases h1:j<l.length
  ·obtain⟨b1,o1,p1,d1,ap,cp,rfl,hb1,e1,ick,hpp,y0,y1⟩:=Qc7 (HL.o.ext gMk HX.o) h1;have HA:=hH (Qdn (p:=p) e1);have hmem:=List.mem_of_getElem? e1;have HC0:=hH (fun(W:World) (hx:Ext wr W)=>HP.o W (ext_trans HX.o hx) _ _ _ hmem (Qam (hpp.ext Qap hx) ick));clear e1 hb1 hpp ick hmem;cases g1:p (p1,d1) with
   |true=>
    have HC:=hH (Qbz (k:=j+1) (by rw[HA.o,ho.out,g1];rfl));rw[g1] at HC0;go_wp2_with (go_at_call 204;go_must ((with_reducible refine(HC0.o _ Qac).mono ?_);rintro e w1 ⟨rfl,hx1⟩;skip))
    go_ret;exact⟨j,by rw[HC.o];simp,rfl,ext_trans HX.o hx1⟩
   |false=>
    have HD:=hH (show(l.take (j+1)).any p=false by rw[HA.o,ho.out,g1];rfl);rw[g1] at HC0;go_wp2_with (go_at_call 204;go_must ((with_reducible refine(HC0.o _ Qac).mono ?_);rintro e w1 ⟨rfl,hx1⟩;skip))
    go_roundw
    case rel=>exact⟨j+1,oM,by go_num,HD,ext_trans HX.o hx1⟩
    case measure=>simp[intOf];omega
  ·have hk:j=l.length:=oM;subst hk;have ho':=ho.out;rw[List.take_of_length_le (Nat.le_refl _)] at ho';have HO:=hH ho';clear ho ho';go_wp2
   go_ret;exact⟨-1,by rw[HO.o];rfl,rfl,HX.o⟩
theorem Qjo {F:Nat→Prop} {w:World} {v:Value} {l:List Mk} {site clock:Int} {g k:Nat} (h:RSl RMk 2 F w v l) (hc:∀x∈l,Qaf x=0) (hg:Qjq g site w) (hk:Qjq k clock w):
  Calls Tryz.prog 207 #[v,.func (.func 204) #[] #[.pointer (some ⟨g,0,none⟩),.pointer (some ⟨k,0,none⟩)]] w fun e w'=>e= .returned (.bool (l.any fun x=>Qb2 site clock x))∧Ext w w':=by
 have H:=hH (Q2n h hc hg hk);clear h hc hg hk;go_enter Tryz.func207,Tryz.ntmps207;go_wp2_with (go_at_call 230;refine H.out.mono ?_;rintro e w1 ⟨n,hn,rfl,hx1⟩;have HN:=hH hn;clear hn)
 go_ret;exact⟨rb HN.o,hx1⟩
theorem Q2m {F:Nat→Prop} {w:World} {v:Value} {l:List At} {site clock:Int} {g k r:Nat} (h:RSl RAt 3 F w v l) (hc:∀x∈l,Qaf x.1=0) (hg:Qjq g site w) (hk:Qjq k clock w) (hr:Vai r g k w):
  Calls Tryz.prog 231 #[v,.func (.func 209) #[] #[.pointer (some ⟨r,0,none⟩)]] w (Q0q (l.any fun x=>Qb2 site clock x.1) w):=by
 obtain⟨a1,n1,c1,rfl⟩:=h.slice;obtain⟨rfl,k1,k1'⟩:=h.len;unfold maxLen at k1';have q1:l.length≤9223372036854775807:=oM;clear k1 k1';have HL:=hH h;obtain⟨p,hp⟩:∃p:At→Bool,p=fun x=>Qb2 site clock x.1:=⟨_,rfl⟩
 rw[←hp];have HP:=hH (fun(W:World) (hx:Ext w W) (F':Nat→Prop) (cs:List Value) (x:At) (hx':x∈l) (h':RAt F' W cs x)=>(show Calls Tryz.prog 209 #[.agg cs.toArray,.pointer (some ⟨r,0,none⟩)] W (fun e w'=>e= .returned (.bool (p x))∧Ext W w') from by rw[hp];exact Q63 h' (hc x hx') (Qgv hg hx) (Qgv hk hx) (Q5d hr hx)));clear h hg hk hp hc hr;go_enter Tryz.func231,Tryz.ntmps231;go_wp2
 go_loopw [8] (fun i wr=>∃j:Nat,j≤l.length∧i= .int .i64 j∧Hid ((l.take j).any p=false)∧Ext w wr) (fun i _=>l.length-(intOf i).toNat)
 case atStart=>exact⟨0,oM,rfl,hH sI,ext_refl _⟩
 case round=>
  obtain⟨j,hk1,rfl,ho,hx⟩:=hrel;have HX:=hH hx;clear hx;by_cases h1:j<l.length
  ·obtain⟨b1,o1,p1,d1,s1,ap,cp,rfl,hb1,e1,ick,hpp,y0,y1,y2⟩:=Qcd (HL.o.ext gAt HX.o) h1;have HA:=hH (Qdn (p:=p) e1);have hmem:=List.mem_of_getElem? e1;have HC0:=hH (fun(W:World) (hx:Ext wr W)=>HP.o W (ext_trans HX.o hx) _ _ _ hmem (Qm2 (s:=s1) (hpp.ext Qap hx) ick));clear e1 hb1 hpp ick hmem;cases g1:p ((p1,d1),s1) with
   |true=>
    have HC:=hH (Qbz (k:=j+1) (by rw[HA.o,ho.out,g1];rfl));rw[g1] at HC0;go_wp2_with (go_at_call 209;go_must ((with_reducible refine(HC0.o _ Qac).mono ?_);rintro e w1 ⟨rfl,hx1⟩;skip))
    go_ret;exact⟨j,by rw[HC.o];simp,rfl,ext_trans HX.o hx1⟩
   |false=>
    have HD:=hH (show(l.take (j+1)).any p=false by rw[HA.o,ho.out,g1];rfl);rw[g1] at HC0;go_wp2_with (go_at_call 209;go_must ((with_reducible refine(HC0.o _ Qac).mono ?_);rintro e w1 ⟨rfl,hx1⟩;skip))
    go_roundw
    case rel=>exact⟨j+1,oM,by go_num,HD,ext_trans HX.o hx1⟩
    case measure=>simp[intOf];omega
  ·have hk:j=l.length:=oM;subst hk;have ho':=ho.out;rw[List.take_of_length_le (Nat.le_refl _)] at ho';have HO:=hH ho';clear ho ho';go_wp2
   go_ret;exact⟨-1,by rw[HO.o];rfl,rfl,HX.o⟩
theorem Qjn {F:Nat→Prop} {w:World} {v:Value} {l:List At} {site clock:Int} {g k r:Nat} (h:RSl RAt 3 F w v l) (hc:∀x∈l,Qaf x.1=0) (hg:Qjq g site w) (hk:Qjq k clock w) (hr:Vai r g k w):
  Calls Tryz.prog 208 #[v,.func (.func 209) #[] #[.pointer (some ⟨r,0,none⟩)]] w fun e w'=>e= .returned (.bool (l.any fun x=>Qb2 site clock x.1))∧Ext w w':=by
 have H:=hH (Q2m h hc hg hk hr);clear h hc hg hk hr;go_enter Tryz.func208,Tryz.ntmps208;go_wp2_with (go_at_call 231;refine H.out.mono ?_;rintro e w1 ⟨n,hn,rfl,hx1⟩;have HN:=hH hn;clear hn)
 go_ret;exact⟨rb HN.o,hx1⟩
end Go.Proofs.YtgnccjojfebkeaaGreat
namespace Cp
open Go Go.RowKit
theorem Ext.cl {a w:World} (h:Ext a w) (b o:Nat) (v:Value) (hb:b<a.heap.size:=by first|omega|(simp<;>omega)) (hv:a.cell? ⟨b,o,none⟩=some v:=by first|(with_reducible assumption)|go_simp):w.cell? ⟨b,o,none⟩=some v:=(h.cells b o hb).trans hv
theorem Ext.fz {a w:World} (h:Ext a w) (b o:Nat) (hb:b<a.heap.size:=by first|omega|(simp<;>omega)) (hv:a.frozen? ⟨b,o,none⟩=false:=by first|(with_reducible assumption)|go_simp):w.frozen? ⟨b,o,none⟩=false:=(h.frz b o hb).trans hv
theorem Ext.lt {a w:World} (h:Ext a w) (b:Nat) (hb:b<a.heap.size:=by first|assumption|omega|(simp<;>omega)):b<w.heap.size:=Nat.lt_of_lt_of_le hb h.size
end Cp
namespace Go.Proofs.YtgnccjojfebkeaaGreat
open Go Go.RowKit Cp
theorem bE (a b:Mk) (site clock many:Int):Qa5 a b site clock many=
  if(Qaf a !=0) && !Qbf a then Qaf a else if(Qaf b !=0) && !Qbf b then Qaf b
  else if !inB site 0 4 || !inB clock 1 10000 || !inB many 1 60 ||decide (10001-many<clock) then 3
  else if(!Qbf a && !Qbf b) && (decide (0≤Qau a b) ||decide (a.1=b.1)) then 4
  else if decide (8<a.1.length) ||decide (8<b.1.length) then 2 else 0:=by
 unfold Qa5 inB;simp only[Bool.and_eq_true,Bool.or_eq_true,Bool.not_eq_true',bne_iff_ne,ne_eq,Bool.and_eq_false_iff,decide_eq_false_iff_not,decide_eq_true_eq];congr 1;congr 1;congr 1
 ·apply propext;omega
end Go.Proofs.YtgnccjojfebkeaaGreat
namespace Go.Proofs.YtgnccjojfebkeaaGreat
open Go Go.RowKit Go.BigFrame Cp
end Go.Proofs.YtgnccjojfebkeaaGreat
namespace Go.Proofs.YtgnccjojfebkeaaGreat
open Go Go.RowKit Cp
section
variable {α:Type} {R:Rd α} {sz:Nat} {F:Nat→Prop} {w:World} {l:List α}
theorem Q7b {b o n c:Nat} (h:RSl R sz F w (.slice (some ⟨b,o,none⟩) n c) l) {i:Nat} (hi:i≤n):RSl R sz F w (.slice (some ⟨b,o+i * sz,none⟩) (n-i) (c-i)) (l.drop i):=by
 obtain⟨a,cap,e,h1,h2,h3⟩:=h;injection e with e1 e2 e3
 subst e1;subst e2;subst e3;refine⟨_,_,by rw[List.length_drop],by rw[List.length_drop];omega,oM,fun hne=> ?_⟩;obtain⟨b',o',e',hF,hl,hx⟩:=h3 (fun e=>hne (by rw[e];simp));injection e' with e'
 injection e' with e1 e2
 subst e1;subst e2;refine⟨_,_,rfl,hF,hl,fun j x hj=> ?_⟩;rw[List.getElem?_drop] at hj;obtain⟨cs,c1,c2,c3⟩:=hx (i+j) x hj;exact⟨cs,c1,by rw[Nat.add_mul,←Nat.add_assoc] at c2;exact c2,c3⟩
end
end Go.Proofs.YtgnccjojfebkeaaGreat
namespace Go.Proofs.YtgnccjojfebkeaaGreat
open Go Go.RowKit Go.BigFrame Cp
theorem Qsu {F G:Nat→Prop} {w:World} {v u:Value} {l:List Mk} (h:RSl RMk 2 F w v l) (k:RSl RMk 2 G w u l):
  Calls Tryz.prog 133 #[v,u] w fun e w'=>e= .returned (.bool true)∧Ext w w':=by
 have HL:=hH (fun(W:World) (hx:Ext w W)=>h.ext gMk hx);have HM:=hH (fun(W:World) (hx:Ext w W)=>k.ext gMk hx);obtain⟨a,n,c,rfl⟩:=h.slice;obtain⟨a2,n2,c2,rfl⟩:=k.slice;obtain⟨rfl,hn1,hn2⟩:=h.len;obtain⟨rfl,_,_⟩:=k.len;unfold maxLen at hn2;have q1:l.length≤9223372036854775807:=oM;clear h k hn1 hn2;go_enter Tryz.func133,Tryz.ntmps133;go_wp2
 go_loopw [5] (fun i wr=>∃q:Nat,q≤l.length∧i= .int .i64 q∧Ext w wr) (fun i _=>l.length-(intOf i).toNat)
 case atStart=>exact⟨0,Nat.zero_le _,rfl,ext_refl _⟩
 case round=>
  obtain⟨q,hq,rfl,hx⟩:=hrel;have HX:=hH hx;clear hx;by_cases hlt:q<l.length
  ·obtain⟨b,o,p,d,ap,cp,rfl,hb,e1,i1,hp1,y0,y1⟩:=Qc7 (HL.o wr HX.o) hlt;obtain⟨b2,o2,p2,d2,ap2,cp2,rfl,hb2,e2,i2,hp2,z0,z1⟩:=Qc7 (HM.o wr HX.o) hlt;obtain⟨rfl,rfl⟩:p=p2∧d=d2:=by
    rw[e1] at e2;injection e2 with e2
    injection e2 with e3 e4
    exact⟨e3,e4⟩
   have HSM:=hH (fun(W:World) (hx:Ext wr W)=>Qll (Qam (hp1.ext Qap hx) i1) (Qam (hp2.ext Qap hx) i2));clear e1 e2 hp1 hp2 i1 i2;go_wp2_with fail
   refine Qad (fun W2 eW2=> ?_);have e0:=rL eW2 ⟨b,o+q * 2,none⟩ (.slice ap p.length cp);have e1:=rL eW2 ⟨b,o+q * 2+1,none⟩ (.int .i64 d);have e3:=rL eW2 ⟨b2,o2+q * 2,none⟩ (.slice ap2 p.length cp2);have e4:=rL eW2 ⟨b2,o2+q * 2+1,none⟩ (.int .i64 d);exact Zbh
  ·go_wp2
   go_ret;exact⟨rfl,HX.o⟩
theorem Qsv {F G:Nat→Prop} {w:World} {cs ds:List Value} {s:St} (h:RSt F w cs s) (k:RSt G w ds s):
  Calls Tryz.prog 56 #[.agg cs.toArray,.agg ds.toArray] w fun e w'=>e= .returned (.bool true)∧Ext w w':=by
 obtain⟨v,u,rfl,h1,h2⟩:=h;obtain⟨v',u',rfl,k1,k2⟩:=k;have HA:=hH (fun(W:World) (hx:Ext w W)=>Qlj (h1.ext gAt hx) (k1.ext gAt hx));have HG:=hH (fun(W:World) (hx:Ext w W)=>Qsu (h2.ext gMk hx) (k2.ext gMk hx));obtain⟨a0,n0,c0,rfl⟩:=h1.slice;obtain⟨a1,n1,c1,rfl⟩:=h2.slice;obtain⟨a2,n2,c2,rfl⟩:=k1.slice;obtain⟨a3,n3,c3,rfl⟩:=k2.slice;clear h1 h2 k1 k2;go_enter Tryz.func56,Tryz.ntmps56;go_wp2_with (first|(go_at_call 72;go_must ((with_reducible refine(HA.o _ Qac).mono ?_);rintro e w1 ⟨rfl,hx1⟩;have hs1:=hx1.size;(try simp at hs1);have q0:=cL hx1 (w.heap.size) 1 (.slice a1 n1 c1);have q1:=cL hx1 (w.heap.size+1) 1 (.slice a3 n3 c3);have HX1:=hH (ext_trans Qac hx1:Ext w w1);clear hx1))|(go_at_call 133;go_must ((with_reducible refine(HG.o _ (ext_trans HX1.o Qac)).mono ?_);rintro e w2 ⟨rfl,hx2⟩)))
 go_ret;exact⟨rfl,ext_trans HX1.o hx2⟩
end Go.Proofs.YtgnccjojfebkeaaGreat
namespace Go.Proofs.YtgnccjojfebkeaaGreat
open Go Go.RowKit Cp
end Go.Proofs.YtgnccjojfebkeaaGreat
namespace Go.Proofs.YtgnccjojfebkeaaGreat
open Go Go.RowKit Go.BigFrame Cp
theorem Qht {F G:Nat→Prop} {w:World} {v:Value} {ds:List Value} {l:List Mk} {m:Mk} (hl:RSl RMk 2 F w v l) (hm:RMk G w ds m):
  Calls Tryz.prog 61 #[v,.agg ds.toArray] w fun e w'=>e= .returned (.bool (Qc5 l m))∧Ext w w':=by
 obtain⟨a0,n0,c0,rfl⟩:=hl.slice;obtain⟨rfl,hn1,hn2⟩:=hl.len;unfold maxLen at hn2;have q1:l.length≤9223372036854775807:=oM;clear hn1 hn2;have HMX:=hH (fun(W:World) (hx:Ext w W)=>gMk.ext hm hx);obtain⟨u,rfl,hm,_⟩:=hm;obtain⟨m,d⟩:=m;simp only at hm HMX ⊢;obtain⟨a2,n2,c2,rfl⟩:=hm.slice;have HL:=hH hl;clear hl hm;obtain⟨pr,hpr⟩:∃pr:Mk→Bool,pr=fun a=>decide (Qau a (m,d)=0):=⟨_,rfl⟩
 have hM:Qc5 l (m,d)=l.any pr:=by rw[hpr];rfl
 rw[hM];have HPR:=hH (fun(a:Mk)=>(show(Qau a (m,d)==0)=pr a by rw[hpr];rfl));clear hM hpr;go_enter Tryz.func61,Tryz.ntmps61;go_wp2
 go_loopw [5] (fun iv wr=>∃k:Nat,k≤l.length∧iv= .int .i64 k∧Hid ((l.take k).any pr=false)∧Ext (w.alloc (.cells #[.slice a2 n2 c2,.int .i64 d] 103)) wr) (fun iv _=>l.length-(intOf iv).toNat)
 case atStart=>exact⟨0,Nat.zero_le _,rfl,hH sI,ext_refl _⟩
 case round=>
  obtain⟨k,hk,rfl,HI,hx⟩:=hrel;have hw:Ext w wr:=ext_trans (ext_alloc (ext_refl _) _) hx;have z1:wr.cell? ⟨w.heap.size,0,none⟩=some (.slice a2 n2 c2):=(hx.cells _ _ sO).trans gS;have z2:wr.cell? ⟨w.heap.size,1,none⟩=some (.int .i64 d):=(hx.cells _ _ sO).trans gS;have hsz:=hx.size
  (try simp at hsz)
  have hbz:w.heap.size<wr.heap.size:=oM;have HX:=hH hx;have HW:=hH hw;clear hx hw;by_cases hlt:k<l.length
  ·obtain⟨b,o,p,c,ap,cp,rfl,hb,ek,ick,hpp,y0,y1⟩:=Qc7 (HL.o.ext gMk HW.o) hlt;have HCM:=hH (fun(W:World) (hx:Ext wr W)=>Qjd (Qam (hpp.ext Qap hx) ick) (HMX.o W (ext_trans HW.o hx)));rw[HPR.o (p,c)] at HCM;have HA:=hH (Qdn (p:=pr) ek);clear hpp ick ek;cases g:pr (p,c) with
   |true=>
    rw[g] at HCM;have HC:=hH (Qbz (p:=pr) (l:=l) (k:=k+1) (by rw[HA.o,HI.o,g];rfl));go_wp2_with fail
    refine Qad (fun W2 eW2=> ?_);obtain⟨e0,e1⟩:=rR2 eW2 w.heap.size (.slice a2 n2 c2) (.int .i64 d);have e2:=rL eW2 ⟨b,o+k * 2,none⟩ (.slice ap p.length cp);have e3:=rL eW2 ⟨b,o+k * 2+1,none⟩ (.int .i64 c);exact Zaz
   |false=>
    rw[g] at HCM;have HD:=hH (show(l.take (k+1)).any pr=false by rw[HA.o,HI.o,g];rfl);go_wp2_with fail
    refine Qad (fun W2 eW2=> ?_);obtain⟨e0,e1⟩:=rR2 eW2 w.heap.size (.slice a2 n2 c2) (.int .i64 d);have e2:=rL eW2 ⟨b,o+k * 2,none⟩ (.slice ap p.length cp);have e3:=rL eW2 ⟨b,o+k * 2+1,none⟩ (.int .i64 c);exact Zau
  ·have hkl:k=l.length:=oM;subst hkl;have hi:=HI.o;rw[List.take_of_length_le (Nat.le_refl _)] at hi;go_wp2
   go_ret;exact⟨rb hi.symm,HW.o⟩
theorem Qxk {p:Prop} (h:p:=by
 go_enter Tryz.func79,Tryz.ntmps79;go_wp2_with (go_at_call 146;go_must ((with_reducible refine(HC.o _ Qac).mono ?_);rintro e w1 ⟨rfl,hx1⟩;obtain⟨x0,x1⟩:=cC2 hx1 w.heap.size (.slice a0 la.length c0) (.slice a1 lg.length c1);have hz1:=hx1.size;(try simp at hz1);have hb1:=zL hx1 w.heap.size;have hw1:Ext w w1:=(ext_trans (ext_alloc (ext_refl _) _) hx1)))
 go_ret;exact⟨rfl,hw1⟩):p:=h
theorem Zbf {p:Prop} (h:p:=by
 refine wpQuiet_nil ?_;rintro w3 ⟨⟨w3x,hx3⟩,rfl⟩;clear hlater;go_wp2_with fail
 go_roundw
 case rel=>exact⟨k+1,oM,by go_num,HF2,ext_trans HXR.o (ext_trans hw2 hx3)⟩
 case measure=>simp[intOf];omega):p:=h
theorem Qjm {F:Nat→Prop} {w:World} {cs:List Value} {s:St} (h:RSt F w cs s):
  Calls Tryz.prog 79 #[.agg cs.toArray] w fun e w'=>e= .returned (.int .i64 (Qax s))∧Ext w w':=by
 obtain⟨va,vg,rfl,ha,hg⟩:=h;obtain⟨la,lg⟩:=s;simp only at ha hg ⊢;have HC:=hH (fun(W:World) (hx:Ext w W)=>Qpt (ha.ext gAt hx));have HA:=hH (fun(W:World) (hx:Ext w W)=>ha.ext gAt hx);have HG:=hH (fun(W:World) (hx:Ext w W)=>hg.ext gMk hx);obtain⟨a0,n0,c0,rfl⟩:=ha.slice;obtain⟨rfl,_,_⟩:=ha.len;obtain⟨a1,n1,c1,rfl⟩:=hg.slice;obtain⟨rfl,hn1,hn2⟩:=hg.len;unfold maxLen at hn2;have q1:lg.length≤9223372036854775807:=oM;clear hn1 hn2 ha hg;by_cases h0:Qb0 la=0
 ·have HOK:=hH (Qd4 h0);rw[h0] at HC;have hal:=HOK.o.1;by_cases hm:600<lg.length
  ·rw[Qog h0 hm];clear h0;exact Qxk
  ·have HM:=hH (Qqe h0 hm);clear h0;go_enter Tryz.func79,Tryz.ntmps79;go_wp2_with (go_at_call 146;go_must ((with_reducible refine(HC.o _ Qac).mono ?_);rintro e w1 ⟨rfl,hx1⟩;obtain⟨x0,x1⟩:=cC2 hx1 w.heap.size (.slice a0 la.length c0) (.slice a1 lg.length c1);have hz1:=hx1.size;(try simp at hz1);have hb1:=zL hx1 w.heap.size;have hw1:Ext w w1:=(ext_trans (ext_alloc (ext_refl _) _) hx1)))
   have HW1:=hH hw1;clear hx1 hw1;go_loopw [4] (fun i wr=>∃k:Nat,k≤lg.length∧i= .int .i64 k∧Hid (Qax (la,lg)=Qc1 la (Qme lg k) (lg.drop k))∧Ext w1 wr) (fun i _=>lg.length-(intOf i).toNat)
   case atStart=>exact⟨0,Nat.zero_le _,rfl,HM,ext_refl _⟩
   case round=>
    obtain⟨k,hk,rfl,HI,hx⟩:=hrel;obtain⟨z0,z1⟩:=tT2 hx hb1 x0 x1;have hzr:=hx.size;have hbr:w.heap.size<wr.heap.size:=oM;have HX:=hH (ext_trans HW1.o hx);have HXR:=hH hx;clear hx;by_cases hlt:k<lg.length
    ·obtain⟨b,o,p,c,ap,cp,rfl,hb,ek,ick,hpp,y0,y1⟩:=Qc7 (HG.o wr HX.o) hlt;have HPX:=hH (fun(W:World) (hx:Ext wr W)=>(Qam (hpp.ext Qap hx) ick));have HCM:=hH (fun(W:World) (hx:Ext wr W)=>Qcm (HPX.o W hx));have HEK:=hH ek;have hn1:¬b=wr.heap.size:=oM;have hn2:¬wr.heap.size=b:=oM;have hn3:¬w.heap.size=wr.heap.size:=oM;have hn4:¬wr.heap.size=w.heap.size:=oM;clear hpp ick ek;by_cases g1:Qaf (p,c)=0
     ·have HG1:=hH g1;rw[g1] at HCM;clear g1;go_wp2_with (go_at_call 147;go_must ((with_reducible refine(HCM.o _ Qac).mono ?_);rintro e w2 ⟨rfl,hx2⟩;obtain⟨v0,v1⟩:=cC2 hx2 (w.heap.size) (.slice a0 la.length c0) (.slice (some ⟨b,o,none⟩) lg.length c1);have v2:=cL hx2 (b) (o+k * 2) (.slice ap p.length cp);have v3:=cL hx2 (b) (o+k * 2+1) (.int .i64 c);have hz2:=hx2.size;(try simp at hz2);have HX2:=hH hx2;clear hx2))
      have hb2:w.heap.size<w2.heap.size:=oM;have hb3:b<w2.heap.size:=oM;have HHM:=hH (fun(W:World) (hx:Ext wr W)=>Qor (HA.o W (ext_trans HX.o hx)) (HPX.o W hx));by_cases hk0:k=0
      ·have t8:decide (0<(k:Int))=false:=decide_eq_false oM;have t8b:decide (0<k)=false:=decide_eq_false oM;have HF:=hH (HI.o.trans (Qkf (ats:=la) HEK.o HG1.o hk0));clear hk0;cases g5:Qel la (p,c) with
       |true=>
        rw[g5] at HHM;have HF2:=hH (HF.o.trans (by rw[if_pos g5]));refine Qad (fun W2 eW2=> ?_);obtain⟨e0,e1⟩:=rR2 eW2 w.heap.size (.slice a0 la.length c0) (.slice (some ⟨b,o,none⟩) lg.length c1);have e2:=rL eW2 ⟨b,o+k * 2,none⟩ (.slice ap p.length cp);have e3:=rL eW2 ⟨b,o+k * 2+1,none⟩ (.int .i64 c);have zW2_0:=zE eW2 w.heap.size;have zW2_1:=zE eW2 b;have hw2:Ext wr W2:=by rw[eW2];exact ext_trans (ext_refl _) (ext_trans HX2.o Qac)
        clear eW2;refine Qaa fol kR (fun hlater=> ?_);repeat(go_big_quiet_step ((first
          |(go_at_call 122;(with_reducible exact Qah (HHM.o _ (ext_trans hw2 (Later.ext _))))))))
        refine wpQuiet_nil ?_;rintro w3 ⟨⟨w3x,hx3⟩,rfl⟩;clear hlater;go_wp2_with fail
        go_ret;exact⟨ri HF2.o.symm,ext_trans HX.o (ext_trans hw2 hx3)⟩
       |false=>
        rw[g5] at HHM;have HF2:=hH (HF.o.trans (by rw[if_neg (by rw[g5];simp)]));refine Qad (fun W2 eW2=> ?_);obtain⟨e0,e1⟩:=rR2 eW2 w.heap.size (.slice a0 la.length c0) (.slice (some ⟨b,o,none⟩) lg.length c1);have e2:=rL eW2 ⟨b,o+k * 2,none⟩ (.slice ap p.length cp);have e3:=rL eW2 ⟨b,o+k * 2+1,none⟩ (.int .i64 c);have zW2_0:=zE eW2 w.heap.size;have zW2_1:=zE eW2 b;have hw2:Ext wr W2:=by rw[eW2];exact ext_trans (ext_refl _) (ext_trans HX2.o Qac)
        clear eW2;refine Qaa fol kR (fun hlater=> ?_);repeat(go_big_quiet_step ((first
          |(go_at_call 122;(with_reducible exact Qah (HHM.o _ (ext_trans hw2 (Later.ext _))))))))
        exact Zbf
      ·have hk1:0<k:=oM;have t8:decide (0<(k:Int))=true:=decide_eq_true oM;have t8b:decide (0<k)=true:=decide_eq_true oM;clear hk0;obtain⟨b',o',p1,d1,ap1,cp1,ea,_,ek1,ic1,hp1,u0,u1⟩:=Qc7 (HG.o wr HX.o) (i:=k-1) oM;obtain⟨rfl,rfl⟩:b=b'∧o=o':=by injection ea with ea;injection ea with ea1 ea2;exact⟨ea1,ea2⟩
       clear ea;have HP1:=hH (fun(W:World) (hx:Ext wr W)=>(Qam (hp1.ext Qap hx) ic1));have HOR:=hH (fun(W:World) (hx:Ext wr W)=>Qes (HP1.o W hx) (HPX.o W hx));have HE1:=hH ek1;clear hp1 ic1 ek1;have x6:=cL HX2.o b (o+(k-1) * 2) (.slice ap1 p1.length cp1);have x7:=cL HX2.o b (o+(k-1) * 2+1) (.int .i64 d1);by_cases g4:0≤Qau (p1,d1) (p,c)
       ·have HF:=hH (HI.o.trans (Qn9 (ats:=la) HEK.o HE1.o hk1 HG1.o g4));have t9:decide (0≤Qau (p1,d1) (p,c))=true:=decide_eq_true g4;generalize Qau (p1,d1) (p,c)=od at *;clear g4 HE1;refine Qad (fun W2 eW2=> ?_);obtain⟨e0,e1⟩:=rR2 eW2 w.heap.size (.slice a0 la.length c0) (.slice (some ⟨b,o,none⟩) lg.length c1);have e2:=rL eW2 ⟨b,o+k * 2,none⟩ (.slice ap p.length cp);have e3:=rL eW2 ⟨b,o+k * 2+1,none⟩ (.int .i64 c);have e6:=rL eW2 ⟨b,o+(k-1) * 2,none⟩ (.slice ap1 p1.length cp1);have e7:=rL eW2 ⟨b,o+(k-1) * 2+1,none⟩ (.int .i64 d1);have zW2_0:=zE eW2 w.heap.size;have zW2_1:=zE eW2 b;have hw2:Ext wr W2:=by rw[eW2];exact ext_trans (ext_refl _) (ext_trans HX2.o Qac)
        exact Za6
       ·have HF:=hH (HI.o.trans (Qmq (ats:=la) HEK.o HE1.o hk1 HG1.o g4));have t9:decide (0≤Qau (p1,d1) (p,c))=false:=decide_eq_false g4;generalize Qau (p1,d1) (p,c)=od at *;clear g4 HE1;cases g5:Qel la (p,c) with
        |true=>
         rw[g5] at HHM;have HF2:=hH (HF.o.trans (by rw[if_pos g5]));refine Qad (fun W2 eW2=> ?_);obtain⟨e0,e1⟩:=rR2 eW2 w.heap.size (.slice a0 la.length c0) (.slice (some ⟨b,o,none⟩) lg.length c1);have e2:=rL eW2 ⟨b,o+k * 2,none⟩ (.slice ap p.length cp);have e3:=rL eW2 ⟨b,o+k * 2+1,none⟩ (.int .i64 c);have e6:=rL eW2 ⟨b,o+(k-1) * 2,none⟩ (.slice ap1 p1.length cp1);have e7:=rL eW2 ⟨b,o+(k-1) * 2+1,none⟩ (.int .i64 d1);have zW2_0:=zE eW2 w.heap.size;have zW2_1:=zE eW2 b;have hw2:Ext wr W2:=by rw[eW2];exact ext_trans (ext_refl _) (ext_trans HX2.o Qac)
         clear eW2;refine Qaa fol kR (fun hlater=> ?_);repeat(go_big_quiet_step ((first
           |(go_at_call 148;(with_reducible exact Qah (HOR.o _ (ext_trans hw2 (Later.ext _)))))
           |(go_at_call 122;(with_reducible exact Qah (HHM.o _ (ext_trans hw2 (Later.ext _))))))))
         refine wpQuiet_nil ?_;rintro w3 ⟨⟨w3x,hx3⟩,rfl⟩;clear hlater;go_wp2_with fail
         go_ret;exact⟨ri HF2.o.symm,ext_trans HX.o (ext_trans hw2 hx3)⟩
        |false=>
         rw[g5] at HHM;have HF2:=hH (HF.o.trans (by rw[if_neg (by rw[g5];simp)]));refine Qad (fun W2 eW2=> ?_);obtain⟨e0,e1⟩:=rR2 eW2 w.heap.size (.slice a0 la.length c0) (.slice (some ⟨b,o,none⟩) lg.length c1);have e2:=rL eW2 ⟨b,o+k * 2,none⟩ (.slice ap p.length cp);have e3:=rL eW2 ⟨b,o+k * 2+1,none⟩ (.int .i64 c);have e6:=rL eW2 ⟨b,o+(k-1) * 2,none⟩ (.slice ap1 p1.length cp1);have e7:=rL eW2 ⟨b,o+(k-1) * 2+1,none⟩ (.int .i64 d1);have zW2_0:=zE eW2 w.heap.size;have zW2_1:=zE eW2 b;have hw2:Ext wr W2:=by rw[eW2];exact ext_trans (ext_refl _) (ext_trans HX2.o Qac)
         clear eW2;refine Qaa fol kR (fun hlater=> ?_);repeat(go_big_quiet_step ((first
           |(go_at_call 148;(with_reducible exact Qah (HOR.o _ (ext_trans hw2 (Later.ext _)))))
           |(go_at_call 122;(with_reducible exact Qah (HHM.o _ (ext_trans hw2 (Later.ext _))))))))
         exact Zbf
     ·have HF:=hH (HI.o.trans (Qmp HEK.o g1));have t1:(Qaf (p,c) !=0)=true:=by simpa using g1
      generalize Qaf (p,c)=m at *;clear g1;go_wp2_with (go_at_call 147;go_must ((with_reducible refine(HCM.o _ Qac).mono ?_);rintro e w2 ⟨rfl,hx2⟩;obtain⟨v0,v1⟩:=cC2 hx2 (w.heap.size) (.slice a0 la.length c0) (.slice (some ⟨b,o,none⟩) lg.length c1);have v2:=cL hx2 (b) (o+k * 2) (.slice ap p.length cp);have v3:=cL hx2 (b) (o+k * 2+1) (.int .i64 c);have hz2:=hx2.size;(try simp at hz2);have HX2:=hH hx2;clear hx2))
      go_ret;exact⟨ri HF.o.symm,ext_trans HX.o (ext_trans (ext_refl _) HX2.o)⟩
    ·go_wp2
     go_ret;exact⟨ri (by rw[HI.o,Qoa oM]),HX.o⟩
 ·rw[Qmt h0];have t1:(Qb0 la !=0)=true:=by simpa using h0
  generalize Qb0 la=r at *;clear h0;exact Qxk
end Go.Proofs.YtgnccjojfebkeaaGreat
