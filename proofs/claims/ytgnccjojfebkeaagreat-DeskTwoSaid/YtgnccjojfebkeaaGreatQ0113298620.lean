/- Desks, plain: what grows; one note where none waits; a desk that pulls all; two that tell each other; what is typed and cut. -/
import Derived.Test.YtgnccjojfebkeaaGreatQ05c48fb51f
import Derived.Test.YtgnccjojfebkeaaGreatQ24f261057a
import Derived.Test.YtgnccjojfebkeaaGreatQa70fadfe36
import Derived.Test.YtgnccjojfebkeaaGreatQ7826b3be5b
import Derived.Test.YtgnccjojfebkeaaGreatQ721193eec0
import Derived.Test.YtgnccjojfebkeaaGreatQa4df953a1d
import Derived.Test.YtgnccjojfebkeaaGreatQc3a1870f38
set_option linter.unusedVariables false
set_option linter.unusedSimpArgs false
set_option maxRecDepth 100000
namespace Go.Proofs.YtgnccjojfebkeaaGreat
open Go Cp
theorem Ved {s:Int} (h0:0≤s) (h4:s≤4):RightK (Vam s):=by
 refine⟨⟨h0,h4⟩,(checkS_fit.1 (show Qax ([],[])=0 by decide):Qpy ([],[])),(show Qbx [0,0,0,0,0]=0 by decide),Nat.zero_le _,Nat.zero_le _,fun n h=>(by cases h),fun n h=>(by cases h),List.Pairwise.nil,fun n h=>(by cases h),fun i n h=>(by simp[Vam] at h),?_,?_⟩
 ·show(0:Int)<1
  decide
 ·show(1:Int)≤1∧(1:Int)≤10001
  decide
theorem Veo {d:Dk} {n:No} (h:Q3r d n=0):RightK (Van d n)∧(Van d n).site=d.site∧(Van d n).out=d.out∧d.clock≤(Van d n).clock∧Qgh (Van d n).seen d.seen=true∧
  (∀m∈d.state.2,Qc5 (Van d n).state.2 m=true)∧∀y∈d.waits,(y∈(Van d n).waits∧¬y.number≤atI (Van d n).seen y.site.toNat)∨(y.number≤atI (Van d n).seen y.site.toNat∧∀z∈(Van d n).waits,Qdz z y≠0):=by
 obtain⟨hd,hn,hE,hv⟩:=Vfr h;obtain⟨xs,acc⟩:=Vfb hd (Ve2 hd) hn hE (fun m hm=>by simp at hm);rw[hv];refine⟨acc.right,acc.site,acc.out,((acc.clock _).1 (Int.le_refl _)).1,Qze.2 (fun i hi=>acc.lvl.up i hi),fun m hm=> ?_,fun y hy=> ?_⟩
 ·refine hasG_iff.2 ((Q1z hd.state (fun z hz=> ?_) acc.st).2 (.inl hm));obtain⟨x,h1,h2⟩:=List.mem_flatMap.1 hz;exact(checkN_right.1 (Veg hd acc h1).2).deeds z h2
 ·rcases(acc.pool y).2 (.inl hy) with h1|h1
  ·right
   refine⟨acc.lvl.done y h1,fun z hz e=> ?_⟩;obtain⟨e1,e2⟩:=ordN_zero.1 e;have h2:=(acc.right.waits z hz).2.1;rw[e1,e2] at h2;have:=acc.lvl.done y h1;omega
  ·left
   exact⟨h1,by have:=(acc.right.waits y h1).2.1;omega⟩
theorem Vd7 (p:At→Bool):∀{l:List At},Qa9 l→Qa9 (l.filter p)
 | [],h=>h
 |x::r,h=>by
  have h1:=Vd7 p (Qb3 h);cases hp:p x with
  |false=>rw[List.filter_cons_of_neg (by rw[hp];simp)];exact h1
  |true=>
   rw[List.filter_cons_of_pos hp];exact Qg9 h1 (fun b hb=>Qcc h b (List.mem_filter.1 hb).1)
theorem Vee:∀{l m:List At},Qa9 l→Qa9 m→(∀x,x∈l↔x∈m)→l=m
 | [],[],_,_,_=>rfl
 | [],b::m,_,_,h=>absurd ((h b).2 (List.mem_cons_self ..)) sI
 |a::l,[],_,_,h=>absurd ((h a).1 (List.mem_cons_self ..)) sI
 |a::l,b::m,hl,hm,h=>by
  have ha:=Qcc hl;have hb:=Qcc hm;have e:a=b:=by
   rcases List.mem_cons.1 ((h a).1 (List.mem_cons_self ..)) with h1|h1
   ·exact h1
   ·rcases List.mem_cons.1 ((h b).2 (List.mem_cons_self ..)) with h2|h2
    ·exact h2.symm
    ·have h3:=hb a h1;have h4:=ha b h2;have h5:=Qo2 a.1 b.1;omega
  subst e;have hself:Qau a.1 a.1=0:=ordM_zero.2 rfl;refine congrArg (a:: ·) (Vee (Qb3 hl) (Qb3 hm) fun x=> ?_);constructor
  ·intro hx;rcases List.mem_cons.1 ((h x).1 (List.mem_cons_of_mem _ hx)) with h1|h1
   ·have:=ha x hx;rw[h1,hself] at this;omega
   ·exact h1
  ·intro hx;rcases List.mem_cons.1 ((h x).2 (List.mem_cons_of_mem _ hx)) with h1|h1
   ·have:=hb x hx;rw[h1,hself] at this;omega
   ·exact h1
theorem Ver {l:List At} {a:At} (h:Qa9 l) (k:Qel l a.1=false):(Qh3 l a).length=l.length+1:=by
 rw[Qx3 h k,List.length_append,List.length_cons,List.length_take,List.length_drop];have:=Q3k l a.1;omega
theorem Ves {l:List At} {a x:At} (h:Qa9 l) (k:Qel l a.1=false):x∈Qh3 l a↔x=a∨x∈l:=by
 rw[Qx3 h k,List.mem_append,List.mem_cons];constructor
 ·rintro(h1|h1|h1)
  ·exact .inr (List.mem_of_mem_take h1)
  ·exact .inl h1
  ·exact .inr (List.mem_of_mem_drop h1)
 ·rintro(h1|h1)
  ·exact .inr (.inl h1)
  ·rw[←List.take_append_drop (Qcv l a.1) l] at h1;rcases List.mem_append.1 h1 with h1|h1
   ·exact .inl h1
   ·exact .inr (.inr h1)
theorem Vel:∀{m l:List At},Qa9 l→Qa9 m→(∀a∈m,Qel l a.1=false)→(Qcf l m).length=l.length+m.length∧(∀x,x∈Qcf l m↔x∈l∨x∈m)∧Qa9 (Qcf l m)
 | [],l,h,_,_=>⟨rfl,fun x=>by show x∈l↔_;simp,h⟩
 |a::m,l,h,hm,hn=>by
  have ha:=hn a (List.mem_cons_self ..);have hn':∀b∈m,Qel (Qh3 l a) b.1=false:=fun b hb=>by
   cases h1:Qel (Qh3 l a) b.1 with
   |false=>rfl
   |true=>
    rcases Q2k l a b.1 h1 with h2|h2
    ·rw[hn b (List.mem_cons_of_mem _ hb)] at h2;cases h2
    ·have h3:=Qcc hm b hb;rw[ordM_zero.2 h2] at h3;omega
  obtain⟨i1,i2,i3⟩:=Vel (l:=Qh3 l a) (Qo7 h) (Qb3 hm) hn';have e:Qcf l (a::m)=Qcf (Qh3 l a) m:=rfl;rw[e];refine⟨by rw[i1,Ver h ha,List.length_cons];omega,fun x=> ?_,i3⟩;rw[i2,Ves h ha,List.mem_cons];constructor
  ·rintro((h1|h1)|h1)
   ·exact .inr (.inl h1)
   ·exact .inl h1
   ·exact .inr (.inr h1)
  ·rintro(h1|h1|h1)
   ·exact .inl (.inr h1)
   ·exact .inl (.inl h1)
   ·exact .inr h1
theorem Vef:∀(rs:List Rn) (s t:St),(∀a∈rs.flatMap Qav,Qc5 s.2 a.1=false)→Qfc s (rs.map Qdw)=some t→t=(Qcf s.1 (rs.flatMap Qav),s.2)
 | [],s,t,_,h=>(Option.some.inj h).symm
 |r::rs,s,t,hg,h=>by
  rw[List.flatMap_cons] at hg ⊢;have hd:=Qyu (s:=s) (r:=r) (fun a ha=>hg a (List.mem_append.2 (.inl ha)));have e:Qfc s ((r::rs).map Qdw)=if Qcb (Qbp s (Qdw r))=true then none else Qfc (Qbp s (Qdw r)) (rs.map Qdw):=rfl
  rw[e,hd] at h;by_cases h1:Qcb (Qcf s.1 (Qav r),s.2)=true
  ·rw[if_pos h1] at h;cases h
  ·rw[if_neg h1] at h;have:=Vef rs (Qcf s.1 (Qav r),s.2) t (fun a ha=>hg a (List.mem_append.2 (.inr ha))) h;rw[this,Qzi]
def Vec (l were:List At) (site:Int):Tx:=Qc3 (l.filter fun x=>decide (Qbq x.1.1=site) && !Qel were x.1)
theorem Vey {P:Dk} {N:No} (hN:Qa0 N=0) (hP:RightK P) (ho:Qva P N=false) (ha:Qfq P N=false) (hw:P.waits=[]) (hr:Qb5 P.seen N=true):
  Q3r P N=(match Qfc P.state N.deeds with|none=>2|some _=>0)∧∀t,Qfc P.state N.deeds=some t→(Van P N).state=t∧(Van P N).seen=Qd3 P.seen N.site.toNat:=by
 have hg:Vbj P N=match Qfc P.state N.deeds with|none=>none|some t=>some (Ql6 (Q4y P N) 0 N t):=by
  unfold Vbj;have hwa:(Q4y P N).waits=[N]:=by show Qu9 P.waits N=[N];rw[hw];rfl
  have hl:P.waits.length+2=1+1:=by rw[hw];rfl
  rw[hl];have hf:(Q4y P N).waits.findIdx? (Qb5 (Q4y P N).seen)=some 0:=by
   rw[hwa];have:Qb5 (Q4y P N).seen N=true:=hr;simp[List.findIdx?_cons,this]
  have hx:(Q4y P N).waits[0]?=some N:=by rw[hwa];rfl
  conv=>lhs;unfold Qkp
  rw[hf];simp only[hx];have hs:(Q4y P N).state=P.state:=rfl;rw[hs];cases Qfc P.state N.deeds with
  |none=>rfl
  |some t=>
   simp only;have hw2:(Ql6 (Q4y P N) 0 N t).waits=[]:=by show((Q4y P N).waits).eraseIdx 0=[];rw[hwa];rfl
   conv=>lhs;unfold Qkp
   rw[hw2];rfl
 have hE:Q3r P N=Q2d P N:=by unfold Q3r;rw[if_neg (by simpa using checkK_ok.2 hP),if_neg (by simpa using hN)]
 have hE2:Q2d P N=(match Vbj P N with|none=>2|some x=>if 40<x.waits.length then 2 else 0):=by unfold Q2d;rw[if_neg (by rw[ho];simp),if_neg (by rw[ha];simp)];rfl
 cases hd:Qfc P.state N.deeds with
 |none=>
  rw[hd] at hg;refine⟨by rw[hE,hE2,hg],fun t h=>by cases h⟩
 |some t=>
  rw[hd] at hg;have h0:Q3r P N=0:=by
   rw[hE,hE2,hg];simp only;have hw2:(Ql6 (Q4y P N) 0 N t).waits=[]:=by show(Qu9 P.waits N).eraseIdx 0=[];rw[hw];rfl
   rw[hw2];rfl
  refine⟨h0,fun t' h=> ?_⟩;injection h with h
  subst h;have hv:Van P N=Ql6 (Q4y P N) 0 N t:=by
   unfold Van;rw[if_pos h0];unfold Q55;rw[if_neg (by rw[ho];simp),hg];rfl
  rw[hv];exact⟨rfl,rfl⟩
section
variable {X Y:Dk} {p:Int} {a b:Tx}
theorem Vex {k:Nat} (hX:RightK X) (hY:RightK Y) (h0:X.site≠Y.site) (hst:X.state=Y.state) (hq:X.seen=Y.seen) (wX:X.waits=[]) (ha:Qjg X (k:Int) a=0) (hb:Qjg Y (k:Int) b=0):
  ∃A B:List At,Qa9 A∧Qa9 B∧Qc3 A=a∧Qc3 B=b∧(∀x∈A,Qbq x.1.1=X.site∧Qel X.state.1 x.1=false)∧(∀x∈B,Qbq x.1.1=Y.site∧Qel X.state.1 x.1=false)∧
   (if X.state.1.length+a.length+b.length≤300 then Q3r (Qj8 X k a) (Qnc Y (Qj6 Y.state k b Y.site Y.clock))=0 else Q3r (Qj8 X k a) (Qnc Y (Qj6 Y.state k b Y.site Y.clock))=2)∧
   (Q3r (Qj8 X k a) (Qnc Y (Qj6 Y.state k b Y.site Y.clock))=0→
    Qfc X.state (Qj6 X.state k a X.site X.clock++Qj6 Y.state k b Y.site Y.clock)=some (Van (Qj8 X k a) (Qnc Y (Qj6 Y.state k b Y.site Y.clock))).state∧
    (Van (Qj8 X k a) (Qnc Y (Qj6 Y.state k b Y.site Y.clock))).seen=Qd3 (Qd3 X.seen X.site.toNat) Y.site.toNat∧
    (Van (Qj8 X k a) (Qnc Y (Qj6 Y.state k b Y.site Y.clock))).state.1.length=X.state.1.length+a.length+b.length∧
    (∀x,x∈(Van (Qj8 X k a) (Qnc Y (Qj6 Y.state k b Y.site Y.clock))).state.1↔x∈X.state.1∨x∈A∨x∈B)∧Qa9 (Van (Qj8 X k a) (Qnc Y (Qj6 Y.state k b Y.site Y.clock))).state.1):=by
 obtain⟨_,pa,sa,da,va,ra⟩:=Q7m ha;obtain⟨_,pb,sb,db,vb,rb⟩:=Q7m hb;obtain⟨fa1,fa2,fa3,fa4,_,fa6,fa7⟩:=Qir pa;obtain⟨fb1,fb2,fb3,fb4,_,fb6,_⟩:=Qir pb;obtain⟨_,⟨k',hk',hkl⟩,_⟩:=Qfn pa;obtain rfl:k=k':=oM;have hA:=(Qd4 fa2).2.1;have hB:=(Qd4 fb2).2.1;have tA:Qc3 (Qf5 X.state k a X.site X.clock)=a:=by
  apply List.ext_getElem?
  intro i;unfold Qc3;rw[List.getElem?_map];cases h:(Qf5 X.state k a X.site X.clock)[i]? with
  |none=>
   have h1:=List.getElem?_eq_none_iff.1 h;rw[fa1] at h1;rw[List.getElem?_eq_none h1];rfl
  |some x=>rw[(fa6 i x h).2.1];rfl
 have tB:Qc3 (Qf5 Y.state k b Y.site Y.clock)=b:=by
  apply List.ext_getElem?
  intro i;unfold Qc3;rw[List.getElem?_map];cases h:(Qf5 Y.state k b Y.site Y.clock)[i]? with
  |none=>
   have h1:=List.getElem?_eq_none_iff.1 h;rw[fb1] at h1;rw[List.getElem?_eq_none h1];rfl
  |some x=>rw[(fb6 i x h).2.1];rfl
 have mA:∀x∈Qf5 X.state k a X.site X.clock,Qbq x.1.1=X.site∧Qel X.state.1 x.1=false:=fun x hx=>by
  obtain⟨i,hi⟩:=List.getElem?_of_mem hx;obtain⟨_,_,g3,_,g5,_⟩:=fa6 i x hi;exact⟨g3,g5⟩
 have mB:∀x∈Qf5 Y.state k b Y.site Y.clock,Qbq x.1.1=Y.site∧Qel X.state.1 x.1=false:=fun x hx=>by
  obtain⟨i,hi⟩:=List.getElem?_of_mem hx;obtain⟨_,_,g3,_,g5,_⟩:=fb6 i x hi;rw[hst];exact⟨g3,g5⟩
 have gB:∀x∈Qf5 Y.state k b Y.site Y.clock,Qc5 X.state.2 x.1=false:=fun x hx=>by
  obtain⟨i,hi⟩:=List.getElem?_of_mem hx;obtain⟨_,_,_,_,_,g6⟩:=fb6 i x hi;rw[hst];exact g6
 have esa:sa=(X.state.1.take k++Qf5 X.state k a X.site X.clock++X.state.1.drop k,X.state.2):=Option.some.inj (da.symm.trans fa7);have memS:∀x,x∈sa.1↔x∈X.state.1∨x∈Qf5 X.state k a X.site X.clock:=fun x=>by
  rw[esa];simp only[List.mem_append];constructor
  ·rintro((h|h)|h)
   ·exact .inl (List.mem_of_mem_take h)
   ·exact .inr h
   ·exact .inl (List.mem_of_mem_drop h)
  ·rintro(h|h)
   ·rw[←List.take_append_drop k X.state.1] at h;rcases List.mem_append.1 h with h|h
    ·exact .inl (.inl h)
    ·exact .inr h
   ·exact .inl (.inr h)
 have lenS:sa.1.length=X.state.1.length+a.length:=by
  rw[esa];simp only[List.length_append,List.length_take,List.length_drop,fa1];omega
 have fitS:=Qko hX.state (Qg5 pa) da;have nB:∀x∈Qf5 Y.state k b Y.site Y.clock,Qel sa.1 x.1=false:=fun x hx=>by
  rw[Qy9];intro y hy e;rcases(memS y).1 hy with h|h
  ·have:=(Qy9.1 (mB x hx).2) y h;exact this e
  ·have h1:=(mA y h).1;rw[e,(mB x hx).1] at h1;exact h0 h1.symm
 obtain⟨n1,n2,n3⟩:=Vel (l:=sa.1) fitS.1.1.1 hB nB;have hlb:Qj6 Y.state k b Y.site Y.clock=(Qct (Qf5 Y.state k b Y.site Y.clock)).map Qdw:=fb3;have dS:∀t,Qfc sa (Qj6 Y.state k b Y.site Y.clock)=some t→t=(Qcf sa.1 (Qf5 Y.state k b Y.site Y.clock),sa.2):=fun t h=>by
  rw[hlb] at h;have:=Vef _ _ _ (by rw[fb4,esa];exact gB) h;rw[fb4] at this;exact this
 have hxs:=Q7g hX.site;have hys:=Q7g hY.site;have hl5:=(checkI_iff.1 hX.seen);have hne:¬X.site.toNat=Y.site.toNat:=fun e=>h0 (Qsx hX.site.1 hY.site.1 e)
 have hbp:∀j,atI (Qd3 X.seen X.site.toNat) j=if X.site.toNat=j then atI X.seen j+1 else atI X.seen j:=Q1j oM
 have hN:Qa0 (Qnc Y (Qj6 Y.state k b Y.site Y.clock))=0:=by
  refine rb.no _ ?_;rw[vb];exact List.mem_append_right _ (List.mem_singleton.2 rfl)
 have hP:=ra;have ho:Qva (Qj8 X k a) (Qnc Y (Qj6 Y.state k b Y.site Y.clock))=false:=by
  rw[va];refine oldK_false.2 ⟨fun e=>h0 e.symm,?_,by show Qu8 X.waits _=false;rw[wX];rfl⟩
  show atI (Qd3 X.seen X.site.toNat) Y.site.toNat<atI Y.seen Y.site.toNat+1
  rw[hbp,if_neg hne,hq];omega
 have hah:Qfq (Qj8 X k a) (Qnc Y (Qj6 Y.state k b Y.site Y.clock))=false:=by
  rw[va]
  show decide (atI (Qd3 X.seen X.site.toNat) X.site.toNat<atI Y.seen X.site.toNat)=false
  rw[hbp,if_pos rfl,hq];exact decide_eq_false oM
 have hw:(Qj8 X k a).waits=[]:=by rw[va];exact wX
 have hrd:Qb5 (Qj8 X k a).seen (Qnc Y (Qj6 Y.state k b Y.site Y.clock))=true:=by
  rw[va];refine readyB_iff.2 ⟨fun j hj=> ?_,?_⟩
  ·show atI Y.seen j≤atI (Qd3 X.seen X.site.toNat) j
   rw[hbp,hq];split<;>omega
  ·show atI (Qd3 X.seen X.site.toNat) Y.site.toNat=atI Y.seen Y.site.toNat+1-1
   rw[hbp,if_neg hne,hq];omega
 obtain⟨t1,t2⟩:=Vey hN hP ho hah hw hrd;have hPs:(Qj8 X k a).state=sa:=by rw[va];rfl
 have hNd:(Qnc Y (Qj6 Y.state k b Y.site Y.clock)).deeds=Qj6 Y.state k b Y.site Y.clock:=rfl;rw[hPs,hNd] at t1 t2;have lB:(Qf5 Y.state k b Y.site Y.clock).length=b.length:=fb1;have hPq:(Qj8 X k a).seen=Qd3 X.seen X.site.toNat:=by rw[va];rfl
 refine⟨Qf5 X.state k a X.site X.clock,Qf5 Y.state k b Y.site Y.clock,hA,hB,tA,tB,mA,mB,?_,fun h=> ?_⟩
 ·by_cases h3:X.state.1.length+a.length+b.length≤300
  ·rw[if_pos h3,t1];have:=Qti (Qct (Qf5 Y.state k b Y.site Y.clock)) sa (by rw[fb4,esa];exact gB) (by rw[fb4];omega) fitS.2.2;rw[←hlb] at this;rw[this]
  ·rw[if_neg h3,t1];cases hd:Qfc sa (Qj6 Y.state k b Y.site Y.clock) with
   |none=>rfl
   |some t=>
    have e:=dS t hd;have hf:=Qko fitS (Qg5 pb) hd;have:=hf.2.1;rw[e] at this;simp only at this;rw[n1] at this;omega
 ·rw[t1] at h;cases hd:Qfc sa (Qj6 Y.state k b Y.site Y.clock) with
  |none=>rw[hd] at h;cases h
  |some t=>
   obtain⟨u1,u2⟩:=t2 t hd;have e:=dS t hd;rw[u1,u2];refine⟨by rw[Qr0,da];exact hd,by rw[hPq];rfl,?_,fun x=> ?_,?_⟩
   ·rw[e];simp only;rw[n1];omega
   ·rw[e];simp only;rw[n2,memS];constructor
    ·rintro((h|h)|h)
     ·exact .inl h
     ·exact .inr (.inl h)
     ·exact .inr (.inr h)
    ·rintro(h|h|h)
     ·exact .inl (.inl h)
     ·exact .inl (.inr h)
     ·exact .inr h
   ·rw[e];exact n3
theorem Vfn (hX:RightK X) (hY:RightK Y) (h0:X.site≠Y.site) (hst:X.state=Y.state) (hq:X.seen=Y.seen) (wX:X.waits=[]) (wY:Y.waits=[]) (ha:Qjg X p a=0) (hb:Qjg Y p b=0)
  {N M:No} (hN:N=Qnc Y (Qj6 Y.state p b Y.site Y.clock)) (hM:M=Qnc X (Qj6 X.state p a X.site X.clock)):
  (Q3r (Qj8 X p a) N=2∧Q3r (Qj8 Y p b) M=2)∨
  (Q3r (Qj8 X p a) N=0∧Q3r (Qj8 Y p b) M=0∧(Van (Qj8 X p a) N).state=(Van (Qj8 Y p b) M).state∧(Van (Qj8 X p a) N).seen=(Van (Qj8 Y p b) M).seen∧
   (Van (Qj8 X p a) N).state.1.length=X.state.1.length+a.length+b.length∧Vec (Van (Qj8 X p a) N).state.1 X.state.1 X.site=a∧Vec (Van (Qj8 X p a) N).state.1 X.state.1 Y.site=b):=by
 subst hN hM;obtain⟨_,pa,_⟩:=Q7m ha;obtain⟨_,pb,_⟩:=Q7m hb;obtain⟨_,⟨k,rfl,_⟩,_⟩:=Qfn pa;obtain⟨A,B,s1,s2,t1,t2,m1,m2,e1,f1⟩:=Vex hX hY h0 hst hq wX ha hb;obtain⟨A',B',_,_,_,_,_,_,e2,f2⟩:=Vex hY hX (fun e=>h0 e.symm) hst.symm hq.symm wY hb ha;have hsum:Y.state.1.length+b.length+a.length=X.state.1.length+a.length+b.length:=by rw[hst];omega
 rw[hsum] at e2;by_cases h3:X.state.1.length+a.length+b.length≤300
 ·rw[if_pos h3] at e1 e2;obtain⟨g1,g2,g3,g4,g5⟩:=f1 e1;obtain⟨k1,k2,k3,k4,k5⟩:=f2 e2;right
  have hd1:∀d∈Qj6 X.state k a X.site X.clock++Qj6 Y.state k b Y.site Y.clock,Qat d=0:=fun d hd=>by
   rcases List.mem_append.1 hd with h|h
   ·exact Qg5 pa d h
   ·exact Qg5 pb d h
  rw[←hst] at k1;refine⟨e1,e2,?_,?_,g3,?_,?_⟩
  ·refine Ve3 hX.state hd1 (fun d=> ?_) g1 (by rw[←hst] at *;exact k1);rw[List.mem_append,List.mem_append,←hst];exact Or.comm
  ·rw[g2,k2,←hq];have hl5:=(checkI_iff.1 hX.seen).1;have hxs:=Q7g hX.site;have hys:=Q7g hY.site;refine Vfl (by rw[Qw7,Qw7,hl5]) (by rw[Qw7,Qw7,hl5]) fun j hj=> ?_
   rw[Q1j (by rw[Qw7];omega),Q1j oM,Q1j (by rw[Qw7];omega),Q1j oM];split<;>split<;>omega
  ·unfold Vec;rw[show((Van (Qj8 X k a) (Qnc Y (Qj6 Y.state k b Y.site Y.clock))).state.1.filter fun x=>decide (Qbq x.1.1=X.site) && !Qel X.state.1 x.1)=A from ?_,t1];refine Vee (Vd7 _ g5) s1 fun x=> ?_
   rw[List.mem_filter,Bool.and_eq_true,decide_eq_true_eq,Bool.not_eq_true',g4];constructor
   ·rintro⟨h|h|h,h4,h6⟩
    ·have:=hasM_iff.2 ⟨x,h,rfl⟩;rw[h6] at this;cases this
    ·exact h
    ·exact absurd (h4.symm.trans (m2 x h).1) h0
   ·intro h;exact⟨.inr (.inl h),(m1 x h).1,(m1 x h).2⟩
  ·unfold Vec;rw[show((Van (Qj8 X k a) (Qnc Y (Qj6 Y.state k b Y.site Y.clock))).state.1.filter fun x=>decide (Qbq x.1.1=Y.site) && !Qel X.state.1 x.1)=B from ?_,t2];refine Vee (Vd7 _ g5) s2 fun x=> ?_
   rw[List.mem_filter,Bool.and_eq_true,decide_eq_true_eq,Bool.not_eq_true',g4];constructor
   ·rintro⟨h|h|h,h4,h6⟩
    ·have:=hasM_iff.2 ⟨x,h,rfl⟩;rw[h6] at this;cases this
    ·exact absurd ((m1 x h).1.symm.trans h4) h0
    ·exact h
   ·intro h;exact⟨.inr (.inr h),(m2 x h).1,(m2 x h).2⟩
 ·rw[if_neg h3] at e1 e2;exact .inl ⟨e1,e2⟩
end
end Go.Proofs.YtgnccjojfebkeaaGreat
