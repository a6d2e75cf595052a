/- Desks, plain: notes in whatever order. -/
import Derived.Test.YtgnccjojfebkeaaGreatQ05c48fb51f
import Derived.Test.YtgnccjojfebkeaaGreatQ32d737f019
import Derived.Test.YtgnccjojfebkeaaGreatQ1fe29ed50b
set_option linter.unusedVariables false
set_option linter.unusedSimpArgs false
set_option maxRecDepth 100000
namespace Go.Proofs.YtgnccjojfebkeaaGreat
open Go Cp
theorem Ve5 {l m:List De} (h:∀d,d∈m↔d∈l) (x:Mk) (o:Option UInt8):Qz0 m x o=Qz0 l x o:=by
 apply Q9s
 apply Nat.le_antisymm
 ·refine(Q2w _ x l o).2 ?_;have h':=(Q2w (key (Qz0 m x o)) x m o).1 (Nat.le_refl _);exact⟨h'.1,fun d hd=>h'.2 d ((h d).2 hd)⟩
 ·refine(Q2w _ x m o).2 ?_;have h':=(Q2w (key (Qz0 l x o)) x l o).1 (Nat.le_refl _);exact⟨h'.1,fun d hd=>h'.2 d ((h d).1 hd)⟩
theorem Vex {s a b:St} {l m:List De} (hs:Qpy s) (hd:∀d∈l,Qat d=0) (hm:∀d,d∈m↔d∈l) (ha:Qfc s l=some a) (hb:Qfc s m=some b):a=b:=by
 have hd2:∀d∈m,Qat d=0:=fun d h=>hd d ((hm d).1 h)
 have fa:=Qko hs hd ha;have fb:=Qko hs hd2 hb;have ca:=Qol hs.1 hd ha;have cb:=Qol hs.1 hd2 hb;have hany:∀x,(m.any fun d=>Qrg d x)=l.any fun d=>Qrg d x:=fun x=>by
  rw[Bool.eq_iff_iff,List.any_eq_true,List.any_eq_true];exact⟨fun⟨d,h1,h2⟩=>⟨d,(hm d).1 h1,h2⟩,fun⟨d,h1,h2⟩=>⟨d,(hm d).2 h1,h2⟩⟩
 have hg:∀x,Qc5 a.2 x=Qc5 b.2 x:=fun x=>by rw[(ca x).1,(cb x).1,hany]
 have h2:a.2=b.2:=Ver fa.1.2.1 fb.1.2.1 hg;have h1:a.1=b.1:=Ve1 fa.1.1.1 fb.1.1.1 (fun x=>by rw[(ca x).2,(cb x).2,hg x,Ve5 hm]);exact Prod.ext h1 h2
structure Lvl (q:List Int) (xs:List No) (p:List Int):Prop where
 up:∀j,j<5→atI q j≤atI p j
 from_:∀(j:Nat) (m:Int),j<5→atI q j<m→m≤atI p j→∃x∈xs,x.site.toNat=j∧x.number=m
 done:∀x∈xs,x.number≤atI p x.site.toNat
theorem Ven (q:List Int):Lvl q [] q:=⟨fun _ _=>Int.le_refl _,fun j m _ h1 h2=>by omega,fun x h=>by simp at h⟩
theorem Veb {q p r:List Int} {xs ys:List No} (h:Lvl q xs p) (k:Lvl p ys r) (hx:∀x∈xs,x.site.toNat<5):Lvl q (xs++ys) r:=by
 refine⟨fun j hj=>Int.le_trans (h.up j hj) (k.up j hj),fun j m hj h1 h2=> ?_,fun x hx'=> ?_⟩
 ·by_cases h3:m≤atI p j
  ·obtain⟨x,h4,h5⟩:=h.from_ j m hj h1 h3;exact⟨x,List.mem_append_left _ h4,h5⟩
  ·obtain⟨x,h4,h5⟩:=k.from_ j m hj oM h2;exact⟨x,List.mem_append_right _ h4,h5⟩
 ·rcases List.mem_append.1 hx' with h4|h4
  ·exact Int.le_trans (h.done x h4) (k.up _ (hx x h4))
  ·exact k.done x h4
theorem Vfn {q:List Int} {x:No} (h:Qb5 q x=true) (hq:x.site.toNat<q.length):Lvl q [x] (Qd3 q x.site.toNat):=by
 obtain⟨_,r2⟩:=readyB_iff.1 h;have hb:∀j,atI (Qd3 q x.site.toNat) j=if x.site.toNat=j then atI q j+1 else atI q j:=Q1j hq
 refine⟨fun j _=> ?_,fun j m _ h1 h2=> ?_,fun y hy=> ?_⟩
 ·rw[hb];split<;>omega
 ·rw[hb] at h2;by_cases e:x.site.toNat=j
  ·rw[if_pos e] at h2;subst e;exact⟨x,List.mem_singleton.2 rfl,rfl,oM⟩
  ·rw[if_neg e] at h2;omega
 ·rw[List.mem_singleton.1 hy,hb,if_pos rfl];omega
def Tr (q:List Int) (xs:List No):Prop:=∀(i:Nat) (x:No),xs[i]?=some x→∃p,Lvl q (xs.take i) p∧Qb5 p x=true
theorem Vfi (q:List Int):Tr q []:=fun i x h=>by simp at h
theorem Vft {q p:List Int} {x:No} {xs:List No} (h:Qb5 q x=true) (k:Lvl q [x] p) (t:Tr p xs) (h5:x.site.toNat<5):Tr q (x::xs):=fun i y hy=>by
 cases i with
 |zero=>
  obtain rfl:x=y:=by simpa using hy
  exact⟨q,Ven q,h⟩
 |succ i=>
  obtain⟨r,h1,h2⟩:=t i y (by simpa using hy);refine⟨r,?_,h2⟩;rw[List.take_succ_cons];exact Veb k h1 (fun z hz=>by rw[List.mem_singleton.1 hz];exact h5)
theorem Vfx {q p:List Int} {xs ys:List No} (h:Tr q xs) (k:Lvl q xs p) (t:Tr p ys) (h5:∀x∈xs,x.site.toNat<5):Tr q (xs++ys):=fun i y hy=>by
 by_cases hi:i<xs.length
 ·rw[List.getElem?_append_left hi] at hy;obtain⟨r,h1,h2⟩:=h i y hy;exact⟨r,by rw[List.take_append_of_le_length oM];exact h1,h2⟩
 ·rw[List.getElem?_append_right oM] at hy;obtain⟨r,h1,h2⟩:=t _ y hy;refine⟨r,?_,h2⟩;rw[List.take_append,List.take_of_length_le oM];exact Veb k h1 h5
theorem Vff {d e:Dk} {xs:List No} (h:RunK d xs e):e.site=d.site∧e.clock=d.clock∧e.out=d.out:=by
 induction h with
 |nil=>exact⟨rfl,rfl,rfl⟩
 |cons _ _ _ _ ih=>exact ih
theorem Ve6 {d e:Dk} {xs:List No} (h:RunK d xs e):Qfc d.state (xs.flatMap (·.deeds))=some e.state:=by
 induction h with
 |nil=>rfl
 |cons _ _ h3 _ ih=>
  rw[List.flatMap_cons,Qr0,h3];exact ih
theorem Vfg {d e:Dk} {xs:List No} (h:RunK d xs e):∀y,(y∈xs∨y∈e.waits)↔y∈d.waits:=by
 induction h with
 |nil=>intro y;simp
 | @cons d e i x t xs _ h2 _ _ ih=>
  intro y;have hi:=ih y;have hw:(Ql6 d i x t).waits=d.waits.eraseIdx i:=rfl;rw[hw] at hi;constructor
  ·rintro(h|h)
   ·rcases List.mem_cons.1 h with rfl|h
    ·exact List.mem_of_getElem? h2
    ·exact Qin (hi.1 (.inl h))
   ·exact Qin (hi.1 (.inr h))
  ·intro h;rcases Vej h2 h with rfl|h
   ·exact .inl (List.mem_cons_self ..)
   ·rcases hi.2 h with h|h
    ·exact .inl (List.mem_cons_of_mem _ h)
    ·exact .inr h
theorem Vfe {d:Dk} (h:MidK d) {n:No} (hn:n∈d.waits):n.site.toNat<5:=by
 have:=(checkN_right.1 (h.nw n hn)).site;omega
theorem Vfq {d e:Dk} {xs:List No} (h:RunK d xs e) (hm:MidK d):Lvl d.seen xs e.seen∧Tr d.seen xs:=by
 induction h with
 |nil d=>exact⟨Ven _,Vfi _⟩
 | @cons d e i x t xs h1 h2 h3 h4 ih=>
  obtain⟨i1,i2⟩:=ih (Q5u hm h1 h2 h3);have h5:=Vfe hm (List.mem_of_getElem? h2);have l1:Lvl d.seen [x] (Ql6 d i x t).seen:=Vfn h1 (by rw[(checkI_iff.1 hm.seen).1];exact h5);exact⟨Veb (xs:=[x]) l1 i1 (fun z hz=>by rw[List.mem_singleton.1 hz];exact h5),Vft h1 l1 i2 h5⟩
structure AccK (d:Dk) (ns:List No) (e:Dk) (xs:List No):Prop where
 right:RightK e
 site:e.site=d.site
 out:e.out=d.out
 pool:∀y,(y∈xs∨y∈e.waits)↔(y∈d.waits∨(y∈ns∧Qva d y=false))
 lvl:Lvl d.seen xs e.seen
 tr:Tr d.seen xs
 st:Qfc d.state (xs.flatMap (·.deeds))=some e.state
 clock:∀c,e.clock≤c↔d.clock≤c∧∀n∈ns,Qva d n=false→1+Qhz d.site n.deeds≤c
 ok:∀n∈ns,Qa0 n=0
theorem Vev {d:Dk} (h:RightK d):AccK d [] d []:=
 ⟨h,rfl,rfl,fun y=>by simp,Ven _,Vfi _,rfl,fun c=>by simp,fun n hn=>by simp at hn⟩
theorem Vd9 {d e:Dk} {ns xs:List No} (hd:RightK d) (h:AccK d ns e xs) {x:No} (hx:x∈xs):x.site.toNat<5∧Qa0 x=0:=by
 have:Qa0 x=0:=by
  rcases(h.pool x).1 (.inl hx) with h1|⟨h1,_⟩
  ·exact hd.nw x h1
  ·exact h.ok x h1
 have h2:=(checkN_right.1 this).site;exact⟨oM,this⟩
theorem Vey {l:List No} {x n:No} (hx:x∈l) (h1:x.site=n.site) (h2:x.number=n.number):Qu8 l n=true:=hasN_true.2 ⟨x,hx,h1,h2⟩
theorem Ve8 {d e:Dk} {ns xs:List No} {n:No} (hd:RightK d) (h:AccK d ns e xs) (hn:Qa0 n=0) (hE:Q2d e n=0) (hu:∀m∈ns,m.site=n.site→m.number=n.number→m=n):
  ∃ys,AccK d (ns++[n]) (Q55 e n) ys:=by
 have hN:=(checkN_right.1 hn).site;have hn5:n.site.toNat<5:=oM;have hok:∀m∈ns++[n],Qa0 m=0:=fun m hm=>by
  rcases List.mem_append.1 hm with hm|hm
  ·exact h.ok m hm
  ·rw[List.mem_singleton.1 hm];exact hn
 have hkey:∀x,(x∈xs∨x∈e.waits)→x.site=n.site→x.number=n.number→Qva d n=true∨n∈ns:=fun x hx h1 h2=>by
  rcases(h.pool x).1 hx with h3|⟨h3,_⟩
  ·left
   cases h4:Qva d n with
   |true=>rfl
   |false=>have:=(oldK_false.1 h4).2.2;rw[Vey h3 h1 h2] at this;cases this
  ·right
   rw[←hu x h3 h1 h2];exact h3
 rcases Ves hE with⟨h1,h2⟩|⟨h1,h2,x,h3,h4,h5⟩
 ·rw[h2];have hold:Qva d n=true∨n∈ns:=by
   by_cases g1:n.site=e.site
   ·left
    unfold Qva;rw[show(n.site==d.site)=true by rw[←h.site];simpa using g1];rfl
   ·by_cases g2:n.number≤atI e.seen n.site.toNat
    ·by_cases g3:n.number≤atI d.seen n.site.toNat
     ·left
      unfold Qva;rw[decide_eq_true g3];simp
     ·obtain⟨x,k1,k2,k3⟩:=h.lvl.from_ n.site.toNat n.number hn5 oM g2;have k4:=(checkN_right.1 (Vd9 hd h k1).2).site;exact hkey x (.inl k1) (Qsx k4.1 hN.1 k2) k3
    ·cases g3:Qu8 e.waits n with
     |false=>rw[oldK_false.2 ⟨g1,oM,g3⟩] at h1;cases h1
     |true=>
      obtain⟨x,k1,k2,k3⟩:=hasN_true.1 g3;exact hkey x (.inr k1) k2 k3
  have hset:∀y,(y∈ns++[n]∧Qva d y=false)↔(y∈ns∧Qva d y=false):=fun y=>by
   constructor
   ·rintro⟨k1,k2⟩;rcases List.mem_append.1 k1 with k1|k1
    ·exact⟨k1,k2⟩
    ·rw[List.mem_singleton.1 k1] at k2 ⊢;rcases hold with k3|k3
     ·rw[k3] at k2;cases k2
     ·exact⟨k3,k2⟩
   ·rintro⟨k1,k2⟩;exact⟨List.mem_append_left _ k1,k2⟩
  refine⟨xs,h.right,h.site,h.out,fun y=>by rw[h.pool y,hset y],h.lvl,h.tr,h.st,fun c=> ?_,hok⟩;rw[h.clock c];constructor
  ·rintro⟨k1,k2⟩;exact⟨k1,fun m hm ho=>k2 m ((hset m).1 ⟨hm,ho⟩).1 ho⟩
  ·rintro⟨k1,k2⟩;exact⟨k1,fun m hm ho=>k2 m (List.mem_append_left _ hm) ho⟩
 ·obtain⟨ys,k1,k2⟩:=Vfk h3;have hm:=add_mid h.right hn h1 h2;obtain⟨l1,l2⟩:=Vfq k1 hm;obtain⟨e1,e2,e3⟩:=Vff k1;have hold:Qva d n=false:=by
   obtain⟨o1,o2,o3⟩:=oldK_false.1 h1;refine oldK_false.2 ⟨by rw[←h.site];exact o1,Int.lt_of_le_of_lt (h.lvl.up _ hn5) o2,?_⟩;cases g:Qu8 d.waits n with
   |false=>rfl
   |true=>
    obtain⟨x0,g1,g2,g3⟩:=hasN_true.1 g;rcases(h.pool x0).2 (.inl g1) with g4|g4
    ·have:=h.lvl.done x0 g4;rw[g2,g3] at this;omega
    ·rw[Vey g4 g2 g3] at o3;cases o3
  rw[h4];refine⟨xs++ys,Ve2 (Vfr k1 hm) h5 k2,e1.trans h.site,e3.trans h.out,fun y=> ?_,Veb h.lvl l1 (fun x hx=>(Vd9 hd h hx).1),Vfx h.tr h.lvl l2 (fun x hx=>(Vd9 hd h hx).1),?_,fun c=> ?_,hok⟩
  ·have hp:=Vfg k1 y;have hw:(Q4y e n).waits=Qu9 e.waits n:=rfl;rw[hw,mem_insN] at hp;have hq:=h.pool y;rw[List.mem_append,List.mem_append,List.mem_singleton];constructor
   ·rintro((g|g)|g)
    ·rcases hq.1 (.inl g) with g|g
     ·exact .inl g
     ·exact .inr ⟨.inl g.1,g.2⟩
    ·rcases hp.1 (.inl g) with rfl|g
     ·exact .inr ⟨.inr rfl,hold⟩
     ·rcases hq.1 (.inr g) with g|g
      ·exact .inl g
      ·exact .inr ⟨.inl g.1,g.2⟩
    ·rcases hp.1 (.inr g) with rfl|g
     ·exact .inr ⟨.inr rfl,hold⟩
     ·rcases hq.1 (.inr g) with g|g
      ·exact .inl g
      ·exact .inr ⟨.inl g.1,g.2⟩
   ·intro g;have:y=n∨(y∈xs∨y∈e.waits):=by
     rcases g with g|⟨g|g,g'⟩
     ·exact .inr (hq.2 (.inl g))
     ·exact .inr (hq.2 (.inr ⟨g,g'⟩))
     ·exact .inl g
    rcases this with g|g|g
    ·rcases hp.2 (.inl g) with g|g
     ·exact .inl (.inr g)
     ·exact .inr g
    ·exact .inl (.inl g)
    ·rcases hp.2 (.inr g) with g|g
     ·exact .inl (.inr g)
     ·exact .inr g
  ·rw[List.flatMap_append,Qr0,h.st]
   show Qfc (Q4y e n).state _=some _
   exact Ve6 k1
  ·have hc:(Q4y e n).clock=Qk4 e.clock (1+Qhz e.site n.deeds):=rfl;rw[e2,hc,maxI_le,h.clock c,h.site];constructor
   ·rintro⟨⟨g1,g2⟩,g3⟩;refine⟨g1,fun m hm ho=> ?_⟩;rcases List.mem_append.1 hm with hm|hm
    ·exact g2 m hm ho
    ·rw[List.mem_singleton.1 hm];exact g3
   ·rintro⟨g1,g2⟩;exact⟨⟨g1,fun m hm ho=>g2 m (List.mem_append_left _ hm) ho⟩,g2 n (List.mem_append_right _ (List.mem_singleton.2 rfl)) hold⟩
theorem Veg:∀{l m:List No},Qdi l→Qdi m→(∀x,x∈l↔x∈m)→l=m
 | [],[],_,_,_=>rfl
 | [],b::m,_,_,h=>absurd ((h b).2 (List.mem_cons_self ..)) sI
 |a::l,[],_,_,h=>absurd ((h a).1 (List.mem_cons_self ..)) sI
 |a::l,b::m,hl,hm,h=>by
  obtain⟨ha,hl'⟩:=List.pairwise_cons.1 hl;obtain⟨hb,hm'⟩:=List.pairwise_cons.1 hm;have e:a=b:=by
   rcases List.mem_cons.1 ((h a).1 (List.mem_cons_self ..)) with h1|h1
   ·exact h1
   ·rcases List.mem_cons.1 ((h b).2 (List.mem_cons_self ..)) with h2|h2
    ·exact h2.symm
    ·have h3:=hb a h1;have h4:=ha b h2;have h5:=Quc a b;omega
  subst e;refine congrArg (a:: ·) (Veg hl' hm' fun x=> ?_);have hself:Qdz a a=0:=ordN_zero.2 ⟨rfl,rfl⟩;constructor
  ·intro hx;rcases List.mem_cons.1 ((h x).1 (List.mem_cons_of_mem _ hx)) with h1|h1
   ·have:=ha x hx;rw[h1,hself] at this;omega
   ·exact h1
  ·intro hx;rcases List.mem_cons.1 ((h x).2 (List.mem_cons_of_mem _ hx)) with h1|h1
   ·have:=hb x hx;rw[h1,hself] at this;omega
   ·exact h1
theorem Vfs {l m:List Int} (hl:l.length=5) (hm:m.length=5) (h:∀j,j<5→atI l j=atI m j):l=m:=by
 apply List.ext_getElem?
 intro i;by_cases hi:i<5
 ·rw[Q8v oM,Q8v oM,h i hi]
 ·rw[List.getElem?_eq_none oM,List.getElem?_eq_none oM]
theorem Vel {d a b:Dk} {ns ms xs ys:List No} (hd:RightK d) (ha:AccK d ns a xs) (hb:AccK d ms b ys) (hs:∀y,y∈ns→y∈ms):∀(i:Nat),∀x∈xs.take i,x∈ys
 |0,x,hx=>by simp at hx
 |i+1,x,hx=>by
  have ih:=Vel hd ha hb hs i;by_cases hi:i<xs.length
  ·rw[List.take_succ_eq_append_getElem hi] at hx;rcases List.mem_append.1 hx with hx|hx
   ·exact ih x hx
   ·rw[List.mem_singleton.1 hx];obtain⟨y,hy⟩:∃y,xs[i]?=some y:=⟨_,List.getElem?_eq_getElem hi⟩;have hyx:xs[i]=y:=by rw[List.getElem?_eq_getElem hi] at hy;exact Option.some.inj hy
    rw[hyx];obtain⟨p,h1,h2⟩:=ha.tr i y hy;have hyin:=List.mem_of_getElem? hy;have hpool:y∈ys∨y∈b.waits:=(hb.pool y).2 (by
     rcases(ha.pool y).1 (.inl hyin) with h|⟨h,h'⟩
     ·exact .inl h
     ·exact .inr ⟨hs y h,h'⟩)
    rcases hpool with h3|h3
    ·exact h3
    ·obtain⟨_,w2,_,w4⟩:=hb.right.waits y h3;obtain⟨r1,r2⟩:=readyB_iff.1 h2;have hle:∀j,j<5→atI p j≤atI b.seen j:=fun j hj=>by
      by_cases h4:atI p j≤atI d.seen j
      ·exact Int.le_trans h4 (hb.lvl.up j hj)
      ·obtain⟨z,z1,z2,z3⟩:=h1.from_ j (atI p j) hj oM (Int.le_refl _);have:=hb.lvl.done z (ih z z1);rw[z2,z3] at this;exact this
     have h5:=(Vd9 hd ha hyin).1;have:Qb5 b.seen y=true:=readyB_iff.2 ⟨fun j hj=>Int.le_trans (r1 j hj) (hle j hj),by have:=hle _ h5;omega⟩;rw[w4] at this;cases this
  ·rw[List.take_of_length_le oM] at hx;exact ih x (by rw[List.take_of_length_le oM];exact hx)
theorem Ve7 {d a b:Dk} {ns ms xs ys:List No} (hd:RightK d) (ha:AccK d ns a xs) (hb:AccK d ms b ys) (hs:∀y,y∈ns↔y∈ms):a=b:=by
 have s1:∀x,x∈xs→x∈ys:=fun x hx=>Vel hd ha hb (fun y=>(hs y).1) xs.length x (by rw[List.take_length];exact hx)
 have s2:∀x,x∈ys→x∈xs:=fun x hx=>Vel hd hb ha (fun y=>(hs y).2) ys.length x (by rw[List.take_length];exact hx)
 have hseen:a.seen=b.seen:=by
  refine Vfs (checkI_iff.1 ha.right.seen).1 (checkI_iff.1 hb.right.seen).1 fun j hj=> ?_
  apply Int.le_antisymm
  ·by_cases h4:atI a.seen j≤atI d.seen j
   ·exact Int.le_trans h4 (hb.lvl.up j hj)
   ·obtain⟨z,z1,z2,z3⟩:=ha.lvl.from_ j _ hj oM (Int.le_refl _);have:=hb.lvl.done z (s1 z z1);rw[z2,z3] at this;exact this
  ·by_cases h4:atI b.seen j≤atI d.seen j
   ·exact Int.le_trans h4 (ha.lvl.up j hj)
   ·obtain⟨z,z1,z2,z3⟩:=hb.lvl.from_ j _ hj oM (Int.le_refl _);have:=ha.lvl.done z (s2 z z1);rw[z2,z3] at this;exact this
 have hpool:∀y,(y∈xs∨y∈a.waits)↔(y∈ys∨y∈b.waits):=fun y=>by rw[ha.pool,hb.pool,hs y]
 have hw:a.waits=b.waits:=by
  refine Veg ha.right.sorted hb.right.sorted fun x=> ?_
  constructor
  ·intro hx;rcases(hpool x).1 (.inr hx) with h|h
   ·have:=ha.lvl.done x (s2 x h);have:=(ha.right.waits x hx).2.1;omega
   ·exact h
  ·intro hx;rcases(hpool x).2 (.inr hx) with h|h
   ·have:=hb.lvl.done x (s1 x h);have:=(hb.right.waits x hx).2.1;omega
   ·exact h
 have hst:a.state=b.state:=by
  refine Vex hd.state (fun z hz=> ?_) (fun z=> ?_) ha.st hb.st
  ·obtain⟨n,h1,h2⟩:=List.mem_flatMap.1 hz;exact(checkN_right.1 (Vd9 hd ha h1).2).deeds z h2
  ·rw[List.mem_flatMap,List.mem_flatMap];exact⟨fun⟨n,h1,h2⟩=>⟨n,s2 n h1,h2⟩,fun⟨n,h1,h2⟩=>⟨n,s1 n h1,h2⟩⟩
 have hc:a.clock=b.clock:=by
  apply Int.le_antisymm
  ·refine(ha.clock _).2 ?_;obtain⟨k1,k2⟩:=(hb.clock b.clock).1 (Int.le_refl _);exact⟨k1,fun n hn=>k2 n ((hs n).1 hn)⟩
  ·refine(hb.clock _).2 ?_;obtain⟨k1,k2⟩:=(ha.clock a.clock).1 (Int.le_refl _);exact⟨k1,fun n hn=>k2 n ((hs n).2 hn)⟩
 have h1:=ha.site.trans hb.site.symm;have h2:=ha.out.trans hb.out.symm;cases a;cases b
 simp only at hseen hw hst hc h1 h2;subst hseen hw hst hc h1 h2;rfl
theorem Vfw {d:Dk} {n:No} (h:Q3r d n=0):RightK d∧Qa0 n=0∧Q2d d n=0∧Van d n=Q55 d n:=by
 have hv:Van d n=Q55 d n:=by unfold Van;rw[if_pos h]
 unfold Q3r at h;by_cases h1:Qaq d=0
 ·rw[if_neg (by simpa using h1)] at h;by_cases h2:Qa0 n=0
  ·rw[if_neg (by simpa using h2)] at h;exact⟨checkK_ok.1 h1,h2,h,hv⟩
  ·rw[if_pos h2] at h;exact absurd h h2
 ·rw[if_pos h1] at h;exact absurd h h1
def Vd7 (d:Dk) (l:List No):Option Dk:=l.foldl (fun o n=>o.bind fun e=>if Q3r e n=0 then some (Van e n) else none) (some d)
theorem Veq (d:Dk) (l:List No) (n:No):Vd7 d (l++[n])=(Vd7 d l).bind fun e=>if Q3r e n=0 then some (Van e n) else none:=by
 unfold Vd7;rw[List.foldl_append];rfl
theorem Vee {d:Dk} {l:List No} {k:Nat} {n:No} (h:l[k]?=some n):Vd7 d (l.take (k+1))=(Vd7 d (l.take k)).bind fun e=>if Q3r e n=0 then some (Van e n) else none:=by
 obtain⟨h1,h2⟩:=List.getElem?_eq_some_iff.1 h;rw[List.take_succ_eq_append_getElem h1,h2,Veq]
def Vek (l:List No):Prop:=∀m∈l,∀n∈l,m.site=n.site→m.number=n.number→m=n
theorem Vec {d:Dk} (hd:RightK d):∀{k:Nat} {l:List No} {e:Dk},Vek l→k≤l.length→Vd7 d (l.take k)=some e→∃xs,AccK d (l.take k) e xs
 |0,l,e,_,_,h=>by
  rw[List.take_zero] at h;have:d=e:=Option.some.inj h;subst this;rw[List.take_zero];exact⟨_,Vev hd⟩
 |k+1,l,e,hu,hk,h=>by
  have hk':k<l.length:=hk;have hx:l[k]?=some l[k]:=List.getElem?_eq_getElem hk';rw[Vee hx] at h;cases he:Vd7 d (l.take k) with
  |none=>rw[he] at h;cases h
  |some e0=>
   rw[he] at h;obtain⟨xs,hxs⟩:=Vec hd hu oM he;simp only[Option.bind_some] at h;by_cases h0:Q3r e0 l[k]=0
   ·rw[if_pos h0] at h;obtain⟨_,h1,h2,h3⟩:=Vfw h0;have:Van e0 l[k]=e:=Option.some.inj h;rw[←this,h3,List.take_succ_eq_append_getElem hk'];exact Ve8 hd hxs h1 h2 (fun m hm=>hu m (List.mem_of_mem_take hm) _ (List.getElem_mem hk'))
   ·rw[if_neg h0] at h;cases h
theorem Vep {d a b:Dk} {l m:List No} (hd:RightK d) (hu:Vek l) (hs:∀y,y∈l↔y∈m) (ha:Vd7 d l=some a) (hb:Vd7 d m=some b):a=b∧RightK a:=by
 have hu2:Vek m:=fun x hx y hy=>hu x ((hs x).2 hx) y ((hs y).2 hy)
 obtain⟨xs,h1⟩:=Vec hd hu (Nat.le_refl l.length) (by rw[List.take_length];exact ha);obtain⟨ys,h2⟩:=Vec hd hu2 (Nat.le_refl m.length) (by rw[List.take_length];exact hb);rw[List.take_length] at h1 h2;exact⟨Ve7 hd h1 h2 hs,h1.right⟩
end Go.Proofs.YtgnccjojfebkeaaGreat
