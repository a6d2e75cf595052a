/- What edit.Put makes: plain. -/
import Derived.Test.YtgnccjojfebkeaaGreatQ2b02e7f86f
import Derived.Test.YtgnccjojfebkeaaGreatQ3471126dda
import Derived.Test.YtgnccjojfebkeaaGreatQ453a98ae2d
import Derived.Test.YtgnccjojfebkeaaGreatQc4eb42fb3d
import Derived.Test.YtgnccjojfebkeaaGreatQed8dd0ae12
set_option linter.unusedVariables false
set_option linter.unusedSimpArgs false
set_option maxRecDepth 100000
namespace Go.Proofs.YtgnccjojfebkeaaGreat
open Go Go.RowKit Go.BigFrame Cp
theorem Qtz {a b:Mk} {site clock many:Int} {q:List Mk} (h:Qi4 a b site clock many q=true):
  (q.length:Int)=many∧∀(i:Nat) (x:Mk),q[i]?=some x→Qaf x=0∧x.2=clock+i∧Qbq x.1=site∧
   (∀y,0<i→q[i-1]?=some y→Qau y x<0)∧(Qbf a=false→Qau a x<0)∧(Qbf b=false→Qau x b<0):=by
 unfold Qi4 at h;simp only[Bool.and_eq_true,decide_eq_true_eq,List.all_eq_true,List.mem_range] at h;refine⟨h.1,fun i x hx=> ?_⟩;have hi:i<q.length:=(List.getElem?_eq_some_iff.1 hx).1;have:=h.2 i hi;unfold Vdn at this;have e:q.getD i ([],0)=x:=by simp[List.getD,hx]
 rw[e] at this;simp only[Bool.and_eq_true,decide_eq_true_eq,Bool.or_eq_true] at this;obtain⟨⟨⟨⟨⟨⟨h1,h2⟩,h3⟩,_⟩,h5⟩,h6⟩,h7⟩:=this;refine⟨h1,h2,h3,fun y h0 hy=> ?_,fun hn=> ?_,fun hn=> ?_⟩
 ·rcases h5 with h5|h5
  ·omega
  ·have e2:q.getD (i-1) ([],0)=y:=by simp[List.getD,hy]
   rwa [e2] at h5
 ·rcases h6 with h6|h6
  ·rw[hn] at h6;cases h6
  ·exact h6
 ·rcases h7 with h7|h7
  ·rw[hn] at h7;cases h7
  ·exact h7
def Qjh (s:St) (site clock:Int):Bool:=s.2.any (fun x=>Qb2 site clock x) ||s.1.any fun x=>Qb2 site clock x.1
def Qet (s:St) (p:Int) (t:Tx) (site clock:Int):Int:=
 if Qax s≠0 then Qax s else if Qb8 p 0 s.1.length=false then 3 else if Qjh s site clock=true then 4
 else if 60<t.length∨300<s.1.length+t.length then 2 else if t=[] then 1 else if Qbj t=false then 3
 else Qa5 (Qej s.1 p.toNat) (Qdd s.1 p.toNat) site clock t.length
def Q98 (s:St) (k:Nat) (t:Tx) (site clock:Int):List Mk:=Qdk (Qej s.1 k) (Qdd s.1 k) site clock t.length
def Qf5 (s:St) (k:Nat) (t:Tx) (site clock:Int):List At:=(Q98 s k t site clock).zip t
def Qj6 (s:St) (p:Int) (t:Tx) (site clock:Int):List De:=if Qet s p t site clock=0 then(Qct (Qf5 s p.toNat t site clock)).map Qdw else []
theorem Qu7 {a b:Mk} {site clock:Int} {t:Tx} (h:Qa5 a b site clock t.length=0) (hs:Qbj t=true) (ht:t.length≤60):
  (Qdk a b site clock t.length).length=t.length∧Qb0 ((Qdk a b site clock t.length).zip t)=0:=by
 obtain⟨hl,hp⟩:=Qtz (Qp4 h);generalize Qdk a b site clock t.length=q at *;have hl':q.length=t.length:=oM;refine⟨hl',?_⟩;have hr:Qec (q.zip t):=by
  refine⟨Qhy fun i x y hx hy=> ?_,fun x hx=> ?_⟩
  ·obtain⟨hx1,_⟩:=List.getElem?_zip_eq_some.1 hx;obtain⟨hy1,_⟩:=List.getElem?_zip_eq_some.1 hy;exact ordM_lt.1 ((hp (i+1) y.1 hy1).2.2.2.1 x.1 oM (by rw[Nat.add_sub_cancel];exact hx1))
  ·obtain⟨i,hi⟩:=List.getElem?_of_mem hx;obtain⟨hx1,hx2⟩:=List.getElem?_zip_eq_some.1 hi;exact⟨(hp i x.1 hx1).1,by unfold Qbj at hs;exact List.all_eq_true.1 hs _ (List.mem_of_getElem? hx2)⟩
 rw[Qsq hr,if_neg (by rw[List.length_zip];omega)]
theorem Qx2 {a:At} {B:List At} (hB:∀y∈B,Qau a.1 y.1= -1):∀{A:List At},(∀x∈A,Qau x.1 a.1= -1)→Qh3 (A++B) a=A++a::B
 | [],_=>by
  cases B with
  |nil=>rfl
  |cons y r=>
   have h:=Qzk (hB y sI);rw[List.nil_append,Qg4,if_neg oM,if_pos h];rfl
 |x::A,hA=>by
  have h:=hA x sI;rw[List.cons_append,Qg4,if_neg oM,if_neg oM,Qx2 hB (fun z hz=>hA z (List.mem_cons_of_mem _ hz))];rfl
theorem Qqw {B:List At}:∀{m A:List At},Qa9 m→(∀a∈m,∀x∈A,Qau x.1 a.1= -1)→(∀a∈m,∀y∈B,Qau a.1 y.1= -1)→Qcf (A++B) m=A++m++B
 | [],A,_,_,_=>by simp[Qcf]
 |a::m,A,hs,hA,hB=>by
  have e:Qcf (A++B) (a::m)=Qcf (Qh3 (A++B) a) m:=rfl;rw[e,Qx2 (hB a sI) (hA a sI)];have e2:A++a::B=(A++[a])++B:=sI;rw[e2,Qqw (Qb3 hs) (fun b hb x hx=> ?_) (fun b hb=>hB b (List.mem_cons_of_mem _ hb))]
  ·simp
  ·rcases List.mem_append.1 hx with hx|hx
   ·exact hA b (List.mem_cons_of_mem _ hb) x hx
   ·have:x=a:=by simpa using hx
    subst this;exact Qcc hs b hb
theorem Qzi (l m n:List At):Qcf l (m++n)=Qcf (Qcf l m) n:=by unfold Qcf;rw[List.foldl_append]
theorem Qyu {s:St} {r:Rn} (hg:∀a∈Qav r,Qc5 s.2 a.1=false):Qbp s (Qdw r)=(Qcf s.1 (Qav r),s.2):=by
 unfold Qbp;rw[if_pos (show(Qdw r).kind=1 from rfl),Qeu,List.filter_eq_self.2 (fun a ha=>by rw[show(Qdw r).run=r from rfl] at ha;rw[hg a ha];rfl)];rfl
theorem Qti:∀(rs:List Rn) (s:St),(∀a∈rs.flatMap Qav,Qc5 s.2 a.1=false)→s.1.length+(rs.flatMap Qav).length≤300→s.2.length≤600→
  Qfc s (rs.map Qdw)=some (Qcf s.1 (rs.flatMap Qav),s.2)
 | [],s,_,_,_=>rfl
 |r::rs,s,hg,hl,h6=>by
  rw[List.flatMap_cons] at hg hl ⊢;have hd:=Qyu (s:=s) (r:=r) (fun a ha=>hg a (List.mem_append.2 (.inl ha)));have hle:=Qi8 (Qav r) s.1;rw[List.length_append] at hl;have e:Qfc s ((r::rs).map Qdw)=if Qcb (Qbp s (Qdw r))=true then none else Qfc (Qbp s (Qdw r)) (rs.map Qdw):=rfl
  rw[e,hd,if_neg (by unfold Qcb;simp;omega),Qti rs (Qcf s.1 (Qav r),s.2) (fun a ha=>hg a (List.mem_append.2 (.inr ha))) (by simp only;omega) h6,Qzi]
theorem Qfn {s:St} {p:Int} {t:Tx} {site clock:Int} (h:Qet s p t site clock=0):
  Qpy s∧(∃k:Nat,p=(k:Int)∧k≤s.1.length)∧Qjh s site clock=false∧t.length≤60∧s.1.length+t.length≤300∧t≠[]∧Qbj t=true∧
   Qa5 (Qej s.1 p.toNat) (Qdd s.1 p.toNat) site clock t.length=0:=by
 unfold Qet at h;by_cases h0:Qax s=0
 ·rw[if_neg (by simpa using h0)] at h;by_cases h1:Qb8 p 0 s.1.length=false
  ·rw[if_pos h1] at h;cases h
  ·rw[if_neg h1] at h;by_cases h2:Qjh s site clock=true
   ·rw[if_pos h2] at h;cases h
   ·rw[if_neg h2] at h;by_cases h3:60<t.length∨300<s.1.length+t.length
    ·rw[if_pos h3] at h;cases h
    ·rw[if_neg h3] at h;by_cases h4:t=[]
     ·rw[if_pos h4] at h;cases h
     ·rw[if_neg h4] at h;by_cases h5:Qbj t=false
      ·rw[if_pos h5] at h;cases h
      ·rw[if_neg h5] at h;obtain⟨i,j,e1,_,e2⟩:=Qgx (by simpa using h1);exact⟨checkS_fit.1 h0,⟨i,e1,oM⟩,by simpa using h2,oM,oM,h4,by simpa using h5,h⟩
 ·rw[if_pos (by simpa using h0)] at h;exact absurd h h0
theorem Qoh {m:Mk} (h:Qaf m=0):Qbf m=false:=by
 have:=Qew h;unfold Qbf;obtain⟨p,c⟩:=m;cases p with
 |nil=>exact absurd rfl this
 |cons a r=>rfl
theorem Q4b {l:List At} (hs:Qa9 l) (hc:∀a∈l,Qaf a.1=0∧Qdm a.2=true) {k:Nat} (hk:k≤l.length) {m:Mk} (h:Qbf (Qej l k)=false→Qau (Qej l k) m<0):
  ∀x∈l.take k,Qau x.1 m= -1:=by
 intro x hx;obtain⟨i,hi⟩:=List.getElem?_of_mem hx;rw[List.getElem?_take] at hi;split at hi
 ·rename_i hik
  have hk0:¬k=0:=oM;have hlt:k-1<l.length:=oM;have e:Qej l k=(l[k-1]).1:=by unfold Qej;rw[if_neg hk0,List.getElem?_eq_getElem hlt];rfl
  have h2:=h (by rw[e];exact Qoh (hc _ (List.getElem_mem hlt)).1);rw[e] at h2;have h3:=ordM_lt.1 h2;rcases Nat.lt_or_ge i (k-1) with hlt2|hge
  ·exact Qck (Qdx hs (k-1) x _ i hlt2 hi (List.getElem?_eq_getElem hlt)) h3
  ·have e3:i=k-1:=oM;subst e3;rw[List.getElem?_eq_getElem hlt] at hi;injection hi with hi
   rw[←hi];exact h3
 ·cases hi
theorem Q15 {l:List At} (hs:Qa9 l) (hc:∀a∈l,Qaf a.1=0∧Qdm a.2=true) {k:Nat} {m:Mk} (h:Qbf (Qdd l k)=false→Qau m (Qdd l k)<0):
  ∀x∈l.drop k,Qau m x.1= -1:=by
 intro x hx;obtain⟨i,hi⟩:=List.getElem?_of_mem hx;rw[List.getElem?_drop] at hi;have hlt:k<l.length:=by have:=(List.getElem?_eq_some_iff.1 hi).1;omega
 have e:Qdd l k=(l[k]).1:=by unfold Qdd;rw[List.getElem?_eq_getElem hlt];rfl
 have h2:=h (by rw[e];exact Qoh (hc _ (List.getElem_mem hlt)).1);rw[e] at h2;have h3:=ordM_lt.1 h2;rcases Nat.eq_zero_or_pos i with rfl|hpos
 ·rw[Nat.add_zero,List.getElem?_eq_getElem hlt] at hi;injection hi with hi
  rw[←hi];exact h3
 ·exact Qck h3 (Qdx hs (k+i) _ x k oM (List.getElem?_eq_getElem hlt) hi)
theorem Qir {s:St} {k:Nat} {t:Tx} {site clock:Int} (h:Qet s (k:Int) t site clock=0):
  (Qf5 s k t site clock).length=t.length∧Qb0 (Qf5 s k t site clock)=0∧Qj6 s k t site clock=(Qct (Qf5 s k t site clock)).map Qdw∧
  (Qct (Qf5 s k t site clock)).flatMap Qav=Qf5 s k t site clock∧(∀r∈Qct (Qf5 s k t site clock),Qbd r=0)∧
  (∀(i:Nat) (a:At),(Qf5 s k t site clock)[i]?=some a→Qaf a.1=0∧t[i]?=some a.2∧Qbq a.1.1=site∧a.1.2=clock+i∧Qel s.1 a.1=false∧Qc5 s.2 a.1=false)∧
  Qfc s (Qj6 s k t site clock)=some (s.1.take k++Qf5 s k t site clock++s.1.drop k,s.2):=by
 obtain⟨hf,⟨k',hk1,hk⟩,hus,ht,hlt,_,hsg,hb⟩:=Qfn h;obtain rfl:k=k':=oM;rw[Int.toNat_natCast] at hb;obtain⟨hl,hck⟩:=Qu7 hb hsg ht;have hV:Qj6 s k t site clock=(Qct (Qf5 s k t site clock)).map Qdw:=by unfold Qj6;rw[if_pos h,Int.toNat_natCast]
 obtain⟨hq1,hq⟩:=Qtz (Qp4 hb);obtain⟨hi1,hi2,_⟩:=Qiv (l:=Qf5 s k t site clock) hck;have hal:(Qf5 s k t site clock).length=t.length:=by unfold Qf5 Q98;rw[List.length_zip];omega
 have hat:∀(i:Nat) (a:At),(Qf5 s k t site clock)[i]?=some a→Qaf a.1=0∧t[i]?=some a.2∧Qbq a.1.1=site∧a.1.2=clock+i∧Qel s.1 a.1=false∧Qc5 s.2 a.1=false:=by
  intro i a ha;obtain⟨ha1,ha2⟩:=List.getElem?_zip_eq_some.1 ha;obtain⟨c1,c2,c3,_,_,_⟩:=hq i a.1 ha1;have hlat:Qb2 site clock a.1=true:=by unfold Qb2;rw[c3,c2,decide_eq_true oM];simp
  unfold Qjh at hus;rw[Bool.or_eq_false_iff] at hus;refine⟨c1,ha2,c3,c2,?_,?_⟩
  ·rw[Qy9];intro x hx e;have:=List.any_eq_false.1 hus.2 x hx;rw[e] at this;exact this hlat
  ·cases hg:Qc5 s.2 a.1 with
   |false=>rfl
   |true=>exact absurd hlat (List.any_eq_false.1 hus.1 _ (hasG_iff.1 hg))
 refine⟨hal,hck,hV,hi1,hi2,hat,?_⟩;rw[hV,Qti _ s (fun a ha=> ?_) (by rw[hi1];omega) hf.2.2,hi1]
 ·have hso:=(Qd4 hck).2.1;have hm:=Qqw (A:=s.1.take k) (B:=s.1.drop k) (m:=Qf5 s k t site clock) hso (fun a ha=> ?_) (fun a ha=> ?_)
  ·rw[List.take_append_drop] at hm;rw[hm]
  ·obtain⟨i,hi⟩:=List.getElem?_of_mem ha;obtain⟨ha1,_⟩:=List.getElem?_zip_eq_some.1 hi;exact Q4b hf.1.1.1 hf.1.1.2 hk (hq i a.1 ha1).2.2.2.2.1
  ·obtain⟨i,hi⟩:=List.getElem?_of_mem ha;obtain⟨ha1,_⟩:=List.getElem?_zip_eq_some.1 hi;exact Q15 hf.1.1.1 hf.1.1.2 (hq i a.1 ha1).2.2.2.2.2
 ·rw[hi1] at ha;obtain⟨i,hi⟩:=List.getElem?_of_mem ha;exact(hat i a hi).2.2.2.2.2
end Go.Proofs.YtgnccjojfebkeaaGreat
namespace Go.Proofs.YtgnccjojfebkeaaGreat
open Go Cp
theorem Qvm {r:Rn} (h:Qbd r=0):Qat (Qdw r)=0:=Qho (d:=Qdw r) rfl h rfl rfl
abbrev Wr:=Dk×List De
def Qnc (d:Dk) (l:List De):No:=⟨d.site,atI d.seen d.site.toNat+1,d.seen,l⟩
def Qgq (x:Wr):Int:=if x.2=[] then 0 else if 20<x.2.length∨500<atI x.1.seen x.1.site.toNat+1 then 2 else 0
def Qnb (x:Wr):Dk:=if x.2=[] then x.1 else {x.1 with out:=x.1.out++[Qnc x.1 x.2],seen:=Qd3 x.1.seen x.1.site.toNat}
def doV (x:Wr) (l:List De):Wr:=({x.1 with state:=Qrn x.1.state l},x.2++l)
def doE (x:Wr) (e:Int) (l:List De):Int:=if e≠0 then e else Qne x.1.state l
def Qs0 (x:Wr) (p:Int) (t:Tx):List De:=Qj6 x.1.state p t x.1.site x.1.clock
def Qek (x:Wr) (p:Int) (t:Tx):Int:=if 10001-x.1.clock<(t.length:Int) then 2 else doE x (Qet x.1.state p t x.1.site x.1.clock) (Qs0 x p t)
def Qgt (x:Wr) (p:Int) (t:Tx):Wr:=({(doV x (Qs0 x p t)).1 with clock:=x.1.clock+t.length},(doV x (Qs0 x p t)).2)
def Qhh (x:Wr) (a n:Int):Int:=doE x (Qs2 x.1.state a n) (Qnh x.1.state a n)
def Qhi (x:Wr) (a n:Int):Wr:=doV x (Qnh x.1.state a n)
def Qrk (x:Wr) (e:Edt):Int:=if e.kind=1 then Qek x e.at_ e.text else Qhh x e.at_ e.many
def Qnv (x:Wr) (e:Edt):Wr:=if e.kind=1 then Qgt x e.at_ e.text else Qhi x e.at_ e.many
def Qji:Wr→List Edt→Int
 |_,[]=>0
 |x,e::r=>if Qrk x e≠0 then Qrk x e else Qji (Qnv x e) r
def Qjj:Wr→List Edt→Wr
 |x,[]=>x
 |x,e::r=>Qjj (Qnv x e) r
def Qd2 (d:Dk) (e:Int) (x:Wr):Int:=if Qaq d≠0 then Qaq d else if e≠0 then e else Qgq x
def Qhg (d:Dk) (e:Int) (x:Wr):Dk:=if Qd2 d e x=0 then Qnb x else noK
def Qjg (d:Dk) (p:Int) (t:Tx):Int:=Qd2 d (Qek (d,[]) p t) (Qgt (d,[]) p t)
def Qj8 (d:Dk) (p:Int) (t:Tx):Dk:=Qhg d (Qek (d,[]) p t) (Qgt (d,[]) p t)
def Q5n (d:Dk) (a n:Int):Int:=Qd2 d (Qhh (d,[]) a n) (Qhi (d,[]) a n)
def Q5o (d:Dk) (a n:Int):Dk:=Qhg d (Qhh (d,[]) a n) (Qhi (d,[]) a n)
structure RightW (x:Wr):Prop where
 desk:RightK x.1
 deeds:∀d∈x.2,Qat d=0
 clock:Qhz x.1.site x.2<x.1.clock
theorem Qee {d:Dk} (h:RightK d):RightW (d,[]):=
 ⟨h,fun d hd=>by simp at hd,by show(0:Int)<d.clock;have:=h.clock;omega⟩
theorem Q5i {site:Int} {l m:List De} {c:Int} (h:Qhz site l≤c) (k:Qhz site m≤c):Qhz site (l++m)≤c:=by
 rw[clkN_le] at h k ⊢;refine⟨h.1,fun d hd=> ?_⟩;rcases List.mem_append.1 hd with hd|hd
 ·exact h.2 d hd
 ·exact k.2 d hd
theorem Qum {x:Wr} {l:List De} {t:St} {c:Int} (h:RightW x) (hl:∀d∈l,Qat d=0) (ht:Qfc x.1.state l=some t) (hc:x.1.clock≤c) (hk:Qhz x.1.site l<c) (c1:c≤10001):
  RightW ({x.1 with state:=t,clock:=c},x.2++l):=by
 have hd:=h.desk;have hcl:=hd.clock;have hlast:=hd.last;obtain⟨l1,l2,l3,l4,l5⟩:=lastK_le.1 (show Qdv x.1≤x.1.clock-1 by omega);have k0:=(Qvp (site:=x.1.site) hl).1;obtain⟨g1,g2⟩:=Qqk (site:=x.1.site) (c:=c-1) hd.state hl ht (fun a ha=>by have:=l2 a ha;omega) (fun m hm=>by have:=l3 m hm;omega) oM;refine⟨⟨hd.site,Qko hd.state hl ht,hd.seen,hd.lw,hd.lo,hd.nw,hd.no,hd.sorted,hd.waits,hd.out,?_,?_⟩,fun d hd'=> ?_,?_⟩
 ·have:Qdv {x.1 with state:=t,clock:=c}≤c-1:=lastK_le.2 ⟨oM,g1,g2,fun n hn=>by have:=l4 n hn;show Qhz x.1.site n.deeds≤c-1;omega,fun n hn=>by have:=l5 n hn;show Qhz x.1.site n.deeds≤c-1;omega⟩
  show Qdv {x.1 with state:=t,clock:=c} <c
  omega
 ·show 1≤c∧c≤10001
  omega
 ·rcases List.mem_append.1 hd' with hd'|hd'
  ·exact h.deeds d hd'
  ·exact hl d hd'
 ·have h1:=h.clock;have:=Q5i (site:=x.1.site) (l:=x.2) (m:=l) (c:=c-1) oM oM
  show Qhz x.1.site (x.2++l)<c
  omega
theorem Q10 {x:Wr} {e:Int} {l:List De} (h:doE x e l=0):e=0∧Qne x.1.state l=0:=by
 unfold doE at h;by_cases h1:e=0
 ·rw[if_neg (by simpa using h1)] at h;exact⟨h1,h⟩
 ·rw[if_pos h1] at h;exact absurd h h1
theorem Q71 {s:St} {l:List De} (h:Qne s l=0):Qfc s l=some (Qrn s l):=by
 obtain⟨_,_,h3⟩:=allE_ok.1 h;unfold Qrn;rw[if_pos h];cases e:Qfc s l with
 |none=>exact absurd e h3
 |some t=>rfl
theorem Qwv {site:Int} {s:St} {a n:Int} {c:Int} (h:Qs2 s a n=0) (h0:0≤c) (hs:∀a∈s.1,Qgu site a.1≤c):Qhz site (Qnh s a n)≤c:=by
 have hd:=Qpm h;refine clkN_le.2 ⟨h0,fun d hdm=> ?_⟩;obtain⟨m,hm,e⟩:=Qvo (site:=site) (hd d hdm);rw[e];have hf:=(Qqi h).1;have hv:Qnh s a n=(Qct (Qry s a.toNat n.toNat)).map Qd1:=by unfold Qnh;rw[if_pos h]
 rw[hv] at hdm;obtain⟨r,hr,rfl⟩:=List.mem_map.1 hdm;have hb:=(Qiv (l:=Qry s a.toNat n.toNat) (Ql5 (checkS_fit.2 hf) _ _)).1;have hm':m∈(Qav r).map (·.1):=by
  rw[Qhl];unfold Qbl Qd1 at hm;simpa using hm
 obtain⟨b,hb1,rfl⟩:=List.mem_map.1 hm';have hb2:b∈Qry s a.toNat n.toNat:=by rw[←hb];exact List.mem_flatMap.2 ⟨r,hr,hb1⟩
 exact hs b (List.mem_of_mem_drop (List.mem_of_mem_take hb2))
theorem Qpq {x:Wr} {a n:Int} (h:RightW x) (e:Qhh x a n=0):RightW (Qhi x a n):=by
 obtain⟨e1,e2⟩:=Q10 e;have hcl:=h.desk.clock;have hlast:=h.desk.last;obtain⟨l1,l2,_⟩:=lastK_le.1 (show Qdv x.1≤x.1.clock-1 by omega);have:=Qwv (site:=x.1.site) e1 l1 l2;exact Qum (c:=x.1.clock) h (Qpm e1) (Q71 e2) (Int.le_refl _) oM hcl.2
theorem Qg5 {s:St} {p:Int} {t:Tx} {site clock:Int} (h:Qet s p t site clock=0):∀d∈Qj6 s p t site clock,Qat d=0:=by
 obtain⟨_,⟨k,rfl,_⟩,_⟩:=Qfn h;obtain⟨_,_,fv,_,fr,_⟩:=Qir h;intro d hd;rw[fv] at hd;obtain⟨r,hr,rfl⟩:=List.mem_map.1 hd;exact Qvm (fr r hr)
theorem Qz1 {s:St} {p:Int} {t:Tx} {site clock:Int} (h:Qet s p t site clock=0) (h0:0≤clock) (x:Int):Qhz x (Qj6 s p t site clock)<clock+t.length:=by
 have hd:=Qg5 h;obtain⟨_,⟨k,rfl,_⟩,_,_,_,hne,_⟩:=Qfn h;obtain⟨fl,_,fv,ff,_,fa,_⟩:=Qir h;have hl:0<t.length:=List.length_pos_iff.2 hne;have:Qhz x (Qj6 s k t site clock)≤clock+t.length-1:=by
  refine clkN_le.2 ⟨oM,fun d hdm=> ?_⟩;obtain⟨m,hm,e⟩:=Qvo (site:=x) (hd d hdm);rw[e];rw[fv] at hdm;obtain⟨r,hr,rfl⟩:=List.mem_map.1 hdm;have hm':m∈(Qav r).map (·.1):=by
   rw[Qhl];unfold Qbl Qdw at hm;simpa using hm
  obtain⟨b,hb1,rfl⟩:=List.mem_map.1 hm';have hb2:b∈Qf5 s k t site clock:=by rw[←ff];exact List.mem_flatMap.2 ⟨r,hr,hb1⟩
  obtain⟨i,hi⟩:=List.getElem?_of_mem hb2;have hil:=(List.getElem?_eq_some_iff.1 hi).1;obtain⟨_,_,_,h4,_⟩:=fa i b hi;unfold Qgu;split
  ·omega
  ·omega
 omega
theorem Qmj {x:Wr} {p:Int} {t:Tx} (h:RightW x) (e:Qek x p t=0):RightW (Qgt x p t):=by
 unfold Qek at e;by_cases h1:10001-x.1.clock<(t.length:Int)
 ·rw[if_pos h1] at e;cases e
 ·rw[if_neg h1] at e;obtain⟨e1,e2⟩:=Q10 e;have hcl:=h.desk.clock;have hx:=Qz1 e1 oM x.1.site;exact Qum (c:=x.1.clock+t.length) h (Qg5 e1) (Q71 e2) oM hx oM
theorem Qlq {x:Wr} {e:Edt} (h:RightW x) (k:Qrk x e=0):RightW (Qnv x e):=by
 unfold Qrk at k;unfold Qnv;by_cases h1:e.kind=1
 ·rw[if_pos h1] at k ⊢;exact Qmj h k
 ·rw[if_neg h1] at k ⊢;exact Qpq h k
theorem Qrj:∀{l:List Edt} {x:Wr},RightW x→Qji x l=0→RightW (Qjj x l)
 | [],_,h,_=>h
 |e::r,x,h,k=>by
  unfold Qji at k;by_cases h1:Qrk x e=0
  ·rw[if_neg (by simpa using h1)] at k
   show RightW (Qjj (Qnv x e) r)
   exact Qrj (Qlq h h1) k
  ·rw[if_pos h1] at k;exact absurd k h1
theorem Qi9 {x:Wr} (h:RightW x) (e:Qgq x=0):RightK (Qnb x):=by
 unfold Qgq at e;unfold Qnb;by_cases h0:x.2=[]
 ·rw[if_pos h0];exact h.desk
 ·rw[if_neg h0] at e ⊢;by_cases h1:20<x.2.length∨500<atI x.1.seen x.1.site.toNat+1
  ·rw[if_pos h1] at e;cases e
  ·have hd:=h.desk;obtain⟨hl5,h5⟩:=checkI_iff.1 hd.seen;have hs5:=Q7g hd.site;have hb:∀j,atI (Qd3 x.1.seen x.1.site.toNat) j=if x.1.site.toNat=j then atI x.1.seen j+1 else atI x.1.seen j:=Q1j oM
   have hown:atI (Qd3 x.1.seen x.1.site.toNat) x.1.site.toNat=atI x.1.seen x.1.site.toNat+1:=by rw[hb,if_pos rfl]
   have hsb:=h5 _ hs5;have hlast:=hd.last;have hcl:=hd.clock;obtain⟨l1,l2,l3,l4,l5⟩:=lastK_le.1 (show Qdv x.1≤x.1.clock-1 by omega);have hc:=h.clock;have hN:Qa0 (Qnc x.1 x.2)=0:=checkN_right.2 ⟨hd.site,by show 1≤atI x.1.seen x.1.site.toNat+1∧atI x.1.seen x.1.site.toNat+1≤500;omega,hd.seen,by show atI x.1.seen x.1.site.toNat=atI x.1.seen x.1.site.toNat+1-1;omega,h0,by show x.2.length≤20;omega,h.deeds⟩;have hol:x.1.out.length≤499:=by
    rcases Nat.eq_zero_or_pos x.1.out.length with hz|hz
    ·omega
    ·obtain⟨y,hy⟩:∃y,x.1.out[0]?=some y:=⟨_,List.getElem?_eq_getElem hz⟩;have h7:=(hd.out 0 y hy).2;have h8:=(checkN_right.1 (hd.no y (List.mem_of_getElem? hy))).number;omega
   refine⟨hd.site,hd.state,?_,hd.lw,?_,hd.nw,fun n hn=> ?_,hd.sorted,fun n hn=> ?_,fun i n hi=> ?_,?_,hd.clock⟩
   ·refine checkI_iff.2 ⟨by show(Qd3 _ _).length=5;rw[Qw7,hl5],fun j hj=> ?_⟩
    show 0≤atI (Qd3 x.1.seen x.1.site.toNat) j∧atI (Qd3 x.1.seen x.1.site.toNat) j≤500
    rw[hb];have:=h5 j hj;split
    ·rename_i e2;subst e2;omega
    ·exact h5 j hj
   ·show(x.1.out++[Qnc x.1 x.2]).length≤500
    rw[List.length_append]
    show x.1.out.length+1≤500
    omega
   ·rcases List.mem_append.1 hn with hn|hn
    ·exact hd.no n hn
    ·rw[List.mem_singleton.1 hn];exact hN
   ·obtain⟨w1,w2,w3,w4⟩:=hd.waits n hn;have hsn:=(checkN_right.1 (hd.nw n hn)).site;have hne:¬x.1.site.toNat=n.site.toNat:=fun e2=>w1 (Qsx hd.site.1 hsn.1 e2).symm
    have e3:atI (Qd3 x.1.seen x.1.site.toNat) n.site.toNat=atI x.1.seen n.site.toNat:=by rw[hb,if_neg hne]
    refine⟨w1,by show atI (Qd3 x.1.seen x.1.site.toNat) n.site.toNat<n.number;rw[e3];exact w2,by show atI n.needs x.1.site.toNat≤atI (Qd3 x.1.seen x.1.site.toNat) x.1.site.toNat;rw[hown];omega,?_⟩
    show Qb5 (Qd3 x.1.seen x.1.site.toNat) n=false
    cases hr:Qb5 (Qd3 x.1.seen x.1.site.toNat) n with
    |false=>rfl
    |true=>
     obtain⟨r1,r2⟩:=readyB_iff.1 hr;rw[e3] at r2;have:Qb5 x.1.seen n=true:=readyB_iff.2 ⟨fun j hj=>by
      have h9:=r1 j hj;rw[hb] at h9;split at h9
      ·rename_i e2;subst e2;exact w3
      ·exact h9,r2⟩
     rw[w4] at this;cases this
   ·show n.site=x.1.site∧n.number=atI (Qd3 x.1.seen x.1.site.toNat) x.1.site.toNat-((x.1.out++[Qnc x.1 x.2]).length:Nat)+1+i
    have hi':(x.1.out++[Qnc x.1 x.2])[i]?=some n:=hi;rw[hown,List.length_append];have hln:([Qnc x.1 x.2]:List No).length=1:=rfl;rw[hln];by_cases hlt:i<x.1.out.length
    ·rw[List.getElem?_append_left hlt] at hi';have:=hd.out i n hi';exact⟨this.1,by rw[this.2];omega⟩
    ·rw[List.getElem?_append_right oM] at hi';have hz:i-x.1.out.length=0:=by
      have:=(List.getElem?_eq_some_iff.1 hi').1;rw[hln] at this;omega
     rw[hz] at hi';have hi2:Qnc x.1 x.2=n:=by simpa using hi'
     subst hi2;exact⟨rfl,by show atI x.1.seen x.1.site.toNat+1=_;omega⟩
   ·have:Qdv {x.1 with out:=x.1.out++[Qnc x.1 x.2],seen:=Qd3 x.1.seen x.1.site.toNat}≤x.1.clock-1:=lastK_le.2 ⟨l1,l2,l3,l4,fun n hn=>by
     rcases List.mem_append.1 hn with hn|hn
     ·exact l5 n hn
     ·rw[List.mem_singleton.1 hn]
      show Qhz x.1.site x.2≤x.1.clock-1
      omega⟩
    show Qdv {x.1 with out:=x.1.out++[Qnc x.1 x.2],seen:=Qd3 x.1.seen x.1.site.toNat} <x.1.clock
    omega
theorem Qu3 {d:Dk} {e:Int} {x:Wr} (h:Qd2 d e x=0):RightK d∧e=0∧Qgq x=0:=by
 unfold Qd2 at h;by_cases h1:Qaq d=0
 ·rw[if_neg (by simpa using h1)] at h;by_cases h2:e=0
  ·rw[if_neg (by simpa using h2)] at h;exact⟨checkK_ok.1 h1,h2,h⟩
  ·rw[if_pos h2] at h;exact absurd h h2
 ·rw[if_pos h1] at h;exact absurd h h1
theorem Q0g {d:Dk} {p:Int} {t:Tx} (h:Qjg d p t=0):RightK (Qj8 d p t):=by
 obtain⟨h1,h2,h3⟩:=Qu3 h;have h':Qd2 d (Qek (d,[]) p t) (Qgt (d,[]) p t)=0:=h;unfold Qj8 Qhg;rw[if_pos h'];exact Qi9 (Qmj (Qee h1) h2) h3
end Go.Proofs.YtgnccjojfebkeaaGreat
