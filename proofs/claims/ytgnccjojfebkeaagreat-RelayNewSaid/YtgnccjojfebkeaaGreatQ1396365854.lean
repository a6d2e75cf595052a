/- Desks, plain: notes in whatever order. -/
import Derived.Test.YtgnccjojfebkeaaGreatQ05c48fb51f
import Derived.Test.YtgnccjojfebkeaaGreatQ067801634e
set_option linter.unusedVariables false
set_option linter.unusedSimpArgs false
set_option maxRecDepth 100000
namespace Go.Proofs.YtgnccjojfebkeaaGreat
open Go Cp
structure Lvl (q:List Int) (xs:List No) (p:List Int):Prop where
 up:∀j,j<5→atI q j≤atI p j
 from_:∀(j:Nat) (m:Int),j<5→atI q j<m→m≤atI p j→∃x∈xs,x.site.toNat=j∧x.number=m
 done:∀x∈xs,x.number≤atI p x.site.toNat
theorem Vfe (q:List Int):Lvl q [] q:=⟨fun _ _=>Int.le_refl _,fun j m _ h1 h2=>by omega,fun x h=>by simp at h⟩
theorem Vej {q p r:List Int} {xs ys:List No} (h:Lvl q xs p) (k:Lvl p ys r) (hx:∀x∈xs,x.site.toNat<5):Lvl q (xs++ys) r:=by
 refine⟨fun j hj=>Int.le_trans (h.up j hj) (k.up j hj),fun j m hj h1 h2=> ?_,fun x hx'=> ?_⟩
 ·by_cases h3:m≤atI p j
  ·obtain⟨x,h4,h5⟩:=h.from_ j m hj h1 h3;exact⟨x,List.mem_append_left _ h4,h5⟩
  ·obtain⟨x,h4,h5⟩:=k.from_ j m hj oM h2;exact⟨x,List.mem_append_right _ h4,h5⟩
 ·rcases List.mem_append.1 hx' with h4|h4
  ·exact Int.le_trans (h.done x h4) (k.up _ (hx x h4))
  ·exact k.done x h4
theorem Vgz {q:List Int} {x:No} (h:Qb5 q x=true) (hq:x.site.toNat<q.length):Lvl q [x] (Qd3 q x.site.toNat):=by
 obtain⟨_,r2⟩:=readyB_iff.1 h;have hb:∀j,atI (Qd3 q x.site.toNat) j=if x.site.toNat=j then atI q j+1 else atI q j:=Q1j hq
 refine⟨fun j _=> ?_,fun j m _ h1 h2=> ?_,fun y hy=> ?_⟩
 ·rw[hb];split<;>omega
 ·rw[hb] at h2;by_cases e:x.site.toNat=j
  ·rw[if_pos e] at h2;subst e;exact⟨x,List.mem_singleton.2 rfl,rfl,oM⟩
  ·rw[if_neg e] at h2;omega
 ·rw[List.mem_singleton.1 hy,hb,if_pos rfl];omega
def Tr (q:List Int) (xs:List No):Prop:=∀(i:Nat) (x:No),xs[i]?=some x→∃p,Lvl q (xs.take i) p∧Qb5 p x=true
theorem Vgu (q:List Int):Tr q []:=fun i x h=>by simp at h
theorem Vg5 {q p:List Int} {x:No} {xs:List No} (h:Qb5 q x=true) (k:Lvl q [x] p) (t:Tr p xs) (h5:x.site.toNat<5):Tr q (x::xs):=fun i y hy=>by
 cases i with
 |zero=>
  obtain rfl:x=y:=by simpa using hy
  exact⟨q,Vfe q,h⟩
 |succ i=>
  obtain⟨r,h1,h2⟩:=t i y (by simpa using hy);refine⟨r,?_,h2⟩;rw[List.take_succ_cons];exact Vej k h1 (fun z hz=>by rw[List.mem_singleton.1 hz];exact h5)
theorem Vhg {q p:List Int} {xs ys:List No} (h:Tr q xs) (k:Lvl q xs p) (t:Tr p ys) (h5:∀x∈xs,x.site.toNat<5):Tr q (xs++ys):=fun i y hy=>by
 by_cases hi:i<xs.length
 ·rw[List.getElem?_append_left hi] at hy;obtain⟨r,h1,h2⟩:=h i y hy;exact⟨r,by rw[List.take_append_of_le_length oM];exact h1,h2⟩
 ·rw[List.getElem?_append_right oM] at hy;obtain⟨r,h1,h2⟩:=t _ y hy;refine⟨r,?_,h2⟩;rw[List.take_append,List.take_of_length_le oM];exact Vej k h1 h5
theorem Vgq {d e:Dk} {xs:List No} (h:RunK d xs e):e.site=d.site∧e.clock=d.clock∧e.out=d.out:=by
 induction h with
 |nil=>exact⟨rfl,rfl,rfl⟩
 |cons _ _ _ _ ih=>exact ih
theorem Vf5 {d e:Dk} {xs:List No} (h:RunK d xs e):Qfc d.state (xs.flatMap (·.deeds))=some e.state:=by
 induction h with
 |nil=>rfl
 |cons _ _ h3 _ ih=>
  rw[List.flatMap_cons,Qr0,h3];exact ih
theorem Vgr {d e:Dk} {xs:List No} (h:RunK d xs e):∀y,(y∈xs∨y∈e.waits)↔y∈d.waits:=by
 induction h with
 |nil=>intro y;simp
 | @cons d e i x t xs _ h2 _ _ ih=>
  intro y;have hi:=ih y;have hw:(Ql6 d i x t).waits=d.waits.eraseIdx i:=rfl;rw[hw] at hi;constructor
  ·rintro(h|h)
   ·rcases List.mem_cons.1 h with rfl|h
    ·exact List.mem_of_getElem? h2
    ·exact Qin (hi.1 (.inl h))
   ·exact Qin (hi.1 (.inr h))
  ·intro h;rcases Ve8 h2 h with rfl|h
   ·exact .inl (List.mem_cons_self ..)
   ·rcases hi.2 h with h|h
    ·exact .inl (List.mem_cons_of_mem _ h)
    ·exact .inr h
theorem Vgg {d:Dk} (h:MidK d) {n:No} (hn:n∈d.waits):n.site.toNat<5:=by
 have:=(checkN_right.1 (h.nw n hn)).site;omega
theorem Vg3 {d e:Dk} {xs:List No} (h:RunK d xs e) (hm:MidK d):Lvl d.seen xs e.seen∧Tr d.seen xs:=by
 induction h with
 |nil d=>exact⟨Vfe _,Vgu _⟩
 | @cons d e i x t xs h1 h2 h3 h4 ih=>
  obtain⟨i1,i2⟩:=ih (Q5u hm h1 h2 h3);have h5:=Vgg hm (List.mem_of_getElem? h2);have l1:Lvl d.seen [x] (Ql6 d i x t).seen:=Vgz h1 (by rw[(checkI_iff.1 hm.seen).1];exact h5);exact⟨Vej (xs:=[x]) l1 i1 (fun z hz=>by rw[List.mem_singleton.1 hz];exact h5),Vg5 h1 l1 i2 h5⟩
structure AccK (d:Dk) (ns:List No) (e:Dk) (xs:List No):Prop where
 right:RightK e
 site:e.site=d.site
 out:e.out=d.out
 pool:∀y,(y∈xs∨y∈e.waits)↔(y∈d.waits∨(y∈ns∧Qva d y=false))
 lvl:Lvl d.seen xs e.seen
 tr:Tr d.seen xs
 st:Qfc d.state (xs.flatMap (·.deeds))=some e.state
 clock:∀c,e.clock≤c↔d.clock≤c∧∀n∈ns,Qva d n=false→1+Qhz d.site n.deeds≤c
 ok:∀n∈ns,Qa0 n=0
theorem Ve3 {d:Dk} (h:RightK d):AccK d [] d []:=
 ⟨h,rfl,rfl,fun y=>by simp,Vfe _,Vgu _,rfl,fun c=>by simp,fun n hn=>by simp at hn⟩
theorem Ven {d e:Dk} {ns xs:List No} (hd:RightK d) (h:AccK d ns e xs) {x:No} (hx:x∈xs):x.site.toNat<5∧Qa0 x=0:=by
 have:Qa0 x=0:=by
  rcases(h.pool x).1 (.inl hx) with h1|⟨h1,_⟩
  ·exact hd.nw x h1
  ·exact h.ok x h1
 have h2:=(checkN_right.1 this).site;exact⟨oM,this⟩
theorem Vfy {l:List No} {x n:No} (hx:x∈l) (h1:x.site=n.site) (h2:x.number=n.number):Qu8 l n=true:=hasN_true.2 ⟨x,hx,h1,h2⟩
theorem Vfi {d e:Dk} {ns xs:List No} {n:No} (hd:RightK d) (h:AccK d ns e xs) (hn:Qa0 n=0) (hE:Q2d e n=0) (hu:∀m∈ns,m.site=n.site→m.number=n.number→m=n):
  ∃ys,AccK d (ns++[n]) (Q55 e n) ys:=by
 have hN:=(checkN_right.1 hn).site;have hn5:n.site.toNat<5:=oM;have hok:∀m∈ns++[n],Qa0 m=0:=fun m hm=>by
  rcases List.mem_append.1 hm with hm|hm
  ·exact h.ok m hm
  ·rw[List.mem_singleton.1 hm];exact hn
 have hkey:∀x,(x∈xs∨x∈e.waits)→x.site=n.site→x.number=n.number→Qva d n=true∨n∈ns:=fun x hx h1 h2=>by
  rcases(h.pool x).1 hx with h3|⟨h3,_⟩
  ·left
   cases h4:Qva d n with
   |true=>rfl
   |false=>have:=(oldK_false.1 h4).2.2;rw[Vfy h3 h1 h2] at this;cases this
  ·right
   rw[←hu x h3 h1 h2];exact h3
 rcases Vfl hE with⟨h1,h2⟩|⟨h1,h2,x,h3,h4,h5⟩
 ·rw[h2];have hold:Qva d n=true∨n∈ns:=by
   by_cases g1:n.site=e.site
   ·left
    unfold Qva;rw[show(n.site==d.site)=true by rw[←h.site];simpa using g1];rfl
   ·by_cases g2:n.number≤atI e.seen n.site.toNat
    ·by_cases g3:n.number≤atI d.seen n.site.toNat
     ·left
      unfold Qva;rw[decide_eq_true g3];simp
     ·obtain⟨x,k1,k2,k3⟩:=h.lvl.from_ n.site.toNat n.number hn5 oM g2;have k4:=(checkN_right.1 (Ven hd h k1).2).site;exact hkey x (.inl k1) (Qsx k4.1 hN.1 k2) k3
    ·cases g3:Qu8 e.waits n with
     |false=>rw[oldK_false.2 ⟨g1,oM,g3⟩] at h1;cases h1
     |true=>
      obtain⟨x,k1,k2,k3⟩:=hasN_true.1 g3;exact hkey x (.inr k1) k2 k3
  have hset:∀y,(y∈ns++[n]∧Qva d y=false)↔(y∈ns∧Qva d y=false):=fun y=>by
   constructor
   ·rintro⟨k1,k2⟩;rcases List.mem_append.1 k1 with k1|k1
    ·exact⟨k1,k2⟩
    ·rw[List.mem_singleton.1 k1] at k2 ⊢;rcases hold with k3|k3
     ·rw[k3] at k2;cases k2
     ·exact⟨k3,k2⟩
   ·rintro⟨k1,k2⟩;exact⟨List.mem_append_left _ k1,k2⟩
  refine⟨xs,h.right,h.site,h.out,fun y=>by rw[h.pool y,hset y],h.lvl,h.tr,h.st,fun c=> ?_,hok⟩;rw[h.clock c];constructor
  ·rintro⟨k1,k2⟩;exact⟨k1,fun m hm ho=>k2 m ((hset m).1 ⟨hm,ho⟩).1 ho⟩
  ·rintro⟨k1,k2⟩;exact⟨k1,fun m hm ho=>k2 m (List.mem_append_left _ hm) ho⟩
 ·obtain⟨ys,k1,k2⟩:=Vgy h3;have hm:=add_mid h.right hn h1 h2;obtain⟨l1,l2⟩:=Vg3 k1 hm;obtain⟨e1,e2,e3⟩:=Vgq k1;have hold:Qva d n=false:=by
   obtain⟨o1,o2,o3⟩:=oldK_false.1 h1;refine oldK_false.2 ⟨by rw[←h.site];exact o1,Int.lt_of_le_of_lt (h.lvl.up _ hn5) o2,?_⟩;cases g:Qu8 d.waits n with
   |false=>rfl
   |true=>
    obtain⟨x0,g1,g2,g3⟩:=hasN_true.1 g;rcases(h.pool x0).2 (.inl g1) with g4|g4
    ·have:=h.lvl.done x0 g4;rw[g2,g3] at this;omega
    ·rw[Vfy g4 g2 g3] at o3;cases o3
  rw[h4];refine⟨xs++ys,Vfz (Vg4 k1 hm) h5 k2,e1.trans h.site,e3.trans h.out,fun y=> ?_,Vej h.lvl l1 (fun x hx=>(Ven hd h hx).1),Vhg h.tr h.lvl l2 (fun x hx=>(Ven hd h hx).1),?_,fun c=> ?_,hok⟩
  ·have hp:=Vgr k1 y;have hw:(Q4y e n).waits=Qu9 e.waits n:=rfl;rw[hw,mem_insN] at hp;have hq:=h.pool y;rw[List.mem_append,List.mem_append,List.mem_singleton];constructor
   ·rintro((g|g)|g)
    ·rcases hq.1 (.inl g) with g|g
     ·exact .inl g
     ·exact .inr ⟨.inl g.1,g.2⟩
    ·rcases hp.1 (.inl g) with rfl|g
     ·exact .inr ⟨.inr rfl,hold⟩
     ·rcases hq.1 (.inr g) with g|g
      ·exact .inl g
      ·exact .inr ⟨.inl g.1,g.2⟩
    ·rcases hp.1 (.inr g) with rfl|g
     ·exact .inr ⟨.inr rfl,hold⟩
     ·rcases hq.1 (.inr g) with g|g
      ·exact .inl g
      ·exact .inr ⟨.inl g.1,g.2⟩
   ·intro g;have:y=n∨(y∈xs∨y∈e.waits):=by
     rcases g with g|⟨g|g,g'⟩
     ·exact .inr (hq.2 (.inl g))
     ·exact .inr (hq.2 (.inr ⟨g,g'⟩))
     ·exact .inl g
    rcases this with g|g|g
    ·rcases hp.2 (.inl g) with g|g
     ·exact .inl (.inr g)
     ·exact .inr g
    ·exact .inl (.inl g)
    ·rcases hp.2 (.inr g) with g|g
     ·exact .inl (.inr g)
     ·exact .inr g
  ·rw[List.flatMap_append,Qr0,h.st]
   show Qfc (Q4y e n).state _=some _
   exact Vf5 k1
  ·have hc:(Q4y e n).clock=Qk4 e.clock (1+Qhz e.site n.deeds):=rfl;rw[e2,hc,maxI_le,h.clock c,h.site];constructor
   ·rintro⟨⟨g1,g2⟩,g3⟩;refine⟨g1,fun m hm ho=> ?_⟩;rcases List.mem_append.1 hm with hm|hm
    ·exact g2 m hm ho
    ·rw[List.mem_singleton.1 hm];exact g3
   ·rintro⟨g1,g2⟩;exact⟨⟨g1,fun m hm ho=>g2 m (List.mem_append_left _ hm) ho⟩,g2 n (List.mem_append_right _ (List.mem_singleton.2 rfl)) hold⟩
theorem Vf6 {l m:List Int} (hl:l.length=5) (hm:m.length=5) (h:∀j,j<5→atI l j=atI m j):l=m:=by
 apply List.ext_getElem?
 intro i;by_cases hi:i<5
 ·rw[Q8v oM,Q8v oM,h i hi]
 ·rw[List.getElem?_eq_none oM,List.getElem?_eq_none oM]
theorem Vhf {d:Dk} {n:No} (h:Q3r d n=0):RightK d∧Qa0 n=0∧Q2d d n=0∧Van d n=Q55 d n:=by
 have hv:Van d n=Q55 d n:=by unfold Van;rw[if_pos h]
 unfold Q3r at h;by_cases h1:Qaq d=0
 ·rw[if_neg (by simpa using h1)] at h;by_cases h2:Qa0 n=0
  ·rw[if_neg (by simpa using h2)] at h;exact⟨checkK_ok.1 h1,h2,h,hv⟩
  ·rw[if_pos h2] at h;exact absurd h h2
 ·rw[if_pos h1] at h;exact absurd h h1
def Vd8 (d:Dk) (l:List No):Option Dk:=l.foldl (fun o n=>o.bind fun e=>if Q3r e n=0 then some (Van e n) else none) (some d)
theorem Ves (d:Dk) (l:List No) (n:No):Vd8 d (l++[n])=(Vd8 d l).bind fun e=>if Q3r e n=0 then some (Van e n) else none:=by
 unfold Vd8;rw[List.foldl_append];rfl
theorem Vfh {d:Dk} {l:List No} {k:Nat} {n:No} (h:l[k]?=some n):Vd8 d (l.take (k+1))=(Vd8 d (l.take k)).bind fun e=>if Q3r e n=0 then some (Van e n) else none:=by
 obtain⟨h1,h2⟩:=List.getElem?_eq_some_iff.1 h;rw[List.take_succ_eq_append_getElem h1,h2,Ves]
end Go.Proofs.YtgnccjojfebkeaaGreat
