/- Small laws that all walks share. -/
import Derived.WalkKit
import Derived.WalkSpells
import Derived.WalkLawsBesides
import Derived.Lib.Hide
import Derived.Deep.RegionHeld3
import Derived.StillTailTactics
import Derived.Deep.QuietTactic
import Derived.BigQuiet
import Derived.Deep.Draws
import Derived.Deep.RegionWith
import Derived.Test.YtgnccjojfebkeaaGreatQ7ca6115a38
import Derived.Test.YtgnccjojfebkeaaGreatQb497ca1fba
import Derived.Test.YtgnccjojfebkeaaGreatQa70fadfe36
import Derived.Test.YtgnccjojfebkeaaGreatQed8dd0ae12
import Derived.Test.YtgnccjojfebkeaaGreatQ05c48fb51f
import Derived.Test.YtgnccjojfebkeaaGreatQ7826b3be5b
import Derived.Test.YtgnccjojfebkeaaGreatQ721193eec0
set_option linter.unusedVariables false
set_option linter.unusedSimpArgs false
set_option maxRecDepth 100000
namespace Cp
open Go Go.RowKit
theorem fF2 {w w':World} (h:Ext w w') {b:Nat} (z:b<w.heap.size) (e0:w.frozen? ⟨b,0,none⟩=false) (e1:w.frozen? ⟨b,1,none⟩=false):w'.frozen? ⟨b,0,none⟩=false∧w'.frozen? ⟨b,1,none⟩=false:=⟨(h.frz b 0 z).trans e0,(h.frz b 1 z).trans e1⟩
theorem cC6 {w w':World} (h:Ext w w') (b:Nat) (v0 v1 v2 v3 v4 v5:Value) (z:b<w.heap.size:=by first|omega|(simp<;>omega)) (e0:w.cell? ⟨b,0,none⟩=some v0:=by first|(with_reducible assumption)|go_simp) (e1:w.cell? ⟨b,1,none⟩=some v1:=by first|(with_reducible assumption)|go_simp) (e2:w.cell? ⟨b,2,none⟩=some v2:=by first|(with_reducible assumption)|go_simp) (e3:w.cell? ⟨b,3,none⟩=some v3:=by first|(with_reducible assumption)|go_simp) (e4:w.cell? ⟨b,4,none⟩=some v4:=by first|(with_reducible assumption)|go_simp) (e5:w.cell? ⟨b,5,none⟩=some v5:=by first|(with_reducible assumption)|go_simp):w'.cell? ⟨b,0,none⟩=some v0∧w'.cell? ⟨b,1,none⟩=some v1∧w'.cell? ⟨b,2,none⟩=some v2∧w'.cell? ⟨b,3,none⟩=some v3∧w'.cell? ⟨b,4,none⟩=some v4∧w'.cell? ⟨b,5,none⟩=some v5:=⟨(h.cells b 0 z).trans e0,(h.cells b 1 z).trans e1,(h.cells b 2 z).trans e2,(h.cells b 3 z).trans e3,(h.cells b 4 z).trans e4,(h.cells b 5 z).trans e5⟩
theorem rR6 {w w':World} (h:w'=w) (b:Nat) (v0 v1 v2 v3 v4 v5:Value) (e0:w.cell? ⟨b,0,none⟩=some v0:=by go_simp) (e1:w.cell? ⟨b,1,none⟩=some v1:=by go_simp) (e2:w.cell? ⟨b,2,none⟩=some v2:=by go_simp) (e3:w.cell? ⟨b,3,none⟩=some v3:=by go_simp) (e4:w.cell? ⟨b,4,none⟩=some v4:=by go_simp) (e5:w.cell? ⟨b,5,none⟩=some v5:=by go_simp):w'.cell? ⟨b,0,none⟩=some v0∧w'.cell? ⟨b,1,none⟩=some v1∧w'.cell? ⟨b,2,none⟩=some v2∧w'.cell? ⟨b,3,none⟩=some v3∧w'.cell? ⟨b,4,none⟩=some v4∧w'.cell? ⟨b,5,none⟩=some v5:=⟨h▸e0,h▸e1,h▸e2,h▸e3,h▸e4,h▸e5⟩
end Cp
namespace Go.Proofs.YtgnccjojfebkeaaGreat
open Go Cp
def Vep (l:List No) (site:Int):Nat:=l.countP fun n=>decide (n.site=site)
theorem Vfp (l:List No) (n:No) (site:Int):Vep (l++[n]) site=Vep l site+if n.site=site then 1 else 0:=by
 unfold Vep;rw[List.countP_append,List.countP_singleton];simp
theorem Vga (l:List No) (site:Int):Vep l site≤l.length:=List.countP_le_length
theorem Viq {l:List No} {k:Nat} {n:No} (h:l[k]?=some n) (site:Int):Vep (l.take (k+1)) site=Vep (l.take k) site+if n.site=site then 1 else 0:=by
 obtain⟨h1,h2⟩:=List.getElem?_eq_some_iff.1 h;rw[List.take_succ_eq_append_getElem h1,h2,Vfp]
def Vee:List No→List No→Int
 |_,[]=>0
 |pre,n::r=>if Qa0 n≠0 then Qa0 n else if n.number≠(Vep pre n.site:Int)+1 then 4 else Vee (pre++[n]) r
def Vd7 (l:List No):Int:=if 300<l.length then 2 else Vee [] l
theorem Vfe {l:List No} {k:Nat} {n:No} (h:l[k]?=some n):Vee (l.take k) (l.drop k)=
  if Qa0 n≠0 then Qa0 n else if n.number≠(Vep (l.take k) n.site:Int)+1 then 4 else Vee (l.take (k+1)) (l.drop (k+1)):=by
 obtain⟨h1,h2⟩:=List.getElem?_eq_some_iff.1 h;have e:l.drop k=n::l.drop (k+1):=by rw[←h2];exact List.drop_eq_getElem_cons h1
 have e2:l.take (k+1)=l.take k++[n]:=by rw[List.take_succ_eq_append_getElem h1,h2]
 rw[e,e2];rfl
theorem Vfl (l:List No):Vee (l.take l.length) (l.drop l.length)=0:=by rw[List.drop_length];rfl
theorem Vfy:∀{m l:List No},Vee l m=0↔∀(i:Nat) (n:No),m[i]?=some n→Qa0 n=0∧n.number=(Vep (l++m.take i) n.site:Int)+1
 | [],l=>⟨fun _ i n h=>by simp at h,fun _=>rfl⟩
 |x::m,l=>by
  have ih:=Vfy (m:=m) (l:=l++[x])
  show(if Qa0 x≠0 then Qa0 x else if x.number≠(Vep l x.site:Int)+1 then 4 else Vee (l++[x]) m)=0↔_
  constructor
  ·intro h i n hi;by_cases h1:Qa0 x=0
   ·rw[if_neg (by simpa using h1)] at h;by_cases h2:x.number=(Vep l x.site:Int)+1
    ·rw[if_neg (by simpa using h2)] at h;cases i with
     |zero=>
      obtain rfl:x=n:=by simpa using hi
      exact⟨h1,by simpa using h2⟩
     |succ i=>
      have:=ih.1 h i n (by simpa using hi);rw[List.take_succ_cons]
      rwa [List.append_assoc] at this
    ·rw[if_pos h2] at h;cases h
   ·rw[if_pos h1] at h;exact absurd h h1
  ·intro h;obtain⟨h1,h2⟩:=h 0 x rfl;rw[if_neg (by simpa using h1),if_neg (by simpa using h2)];refine ih.2 fun i n hi=> ?_
   have:=h (i+1) n (by simpa using hi);rw[List.take_succ_cons] at this
   rwa [List.append_assoc]
theorem checkLog_ok {l:List No}:Vd7 l=0↔l.length≤300∧∀(i:Nat) (n:No),l[i]?=some n→Qa0 n=0∧n.number=(Vep (l.take i) n.site:Int)+1:=by
 unfold Vd7;by_cases h:300<l.length
 ·rw[if_pos h];exact⟨fun e=>(by cases e),fun e=>oM⟩
 ·rw[if_neg h,Vfy];simp only[List.nil_append];exact⟨fun e=>⟨oM,e⟩,fun e=>e.2⟩
def Vhc (l:List No) (n:No):Int:=
 if Vd7 l≠0 then Vd7 l else if Qa0 n≠0 then Qa0 n else if(Vep l n.site:Int)+1<n.number then 4
 else if n.number=(Vep l n.site:Int)+1∧l.length=300 then 2 else 0
def Vhb (l:List No) (n:No):Bool:=decide (Vhc l n=0) && decide (n.number=(Vep l n.site:Int)+1)
def Vhd (l:List No) (n:No):List No:=if Vhc l n=0 then(if n.number=(Vep l n.site:Int)+1 then l++[n] else l) else []
theorem Vfc {l:List No} {n:No} (h:Vhc l n=0):Vd7 l=0∧Qa0 n=0∧Vd7 (Vhd l n)=0∧(Vhb l n=true→Vhd l n=l++[n])∧(Vhb l n=false→Vhd l n=l):=by
 have h0:=h;unfold Vhc at h0;by_cases h1:Vd7 l=0
 ·rw[if_neg (by simpa using h1)] at h0;by_cases h2:Qa0 n=0
  ·rw[if_neg (by simpa using h2)] at h0;by_cases h3:(Vep l n.site:Int)+1<n.number
   ·rw[if_pos h3] at h0;cases h0
   ·rw[if_neg h3] at h0;by_cases h4:n.number=(Vep l n.site:Int)+1∧l.length=300
    ·rw[if_pos h4] at h0;cases h0
    ·refine⟨h1,h2,?_,?_,?_⟩
     ·unfold Vhd;rw[if_pos h];split
      ·rename_i h5
       obtain⟨g1,g2⟩:=checkLog_ok.1 h1;refine checkLog_ok.2 ⟨?_,?_⟩
       ·rw[List.length_append];have:¬l.length=300:=fun e=>h4 ⟨h5,e⟩
        simp;omega
       ·intro i x hi;by_cases hlt:i<l.length
        ·rw[List.getElem?_append_left hlt] at hi;have:=g2 i x hi
         rwa [List.take_append_of_le_length oM]
        ·have hil:i=l.length:=by
          have:=(List.getElem?_eq_some_iff.1 hi).1;rw[List.length_append] at this;simp at this;omega
         subst hil;rw[List.getElem?_append_right (Nat.le_refl _)] at hi;obtain rfl:n=x:=by simpa using hi
         rw[List.take_left];exact⟨h2,h5⟩
      ·exact h1
     ·intro hb;unfold Vhb at hb;rw[Bool.and_eq_true] at hb;unfold Vhd;rw[if_pos h,if_pos (of_decide_eq_true hb.2)]
     ·intro hb;unfold Vhb at hb;rw[decide_eq_true h] at hb;have:¬n.number=(Vep l n.site:Int)+1:=by simpa using hb
      unfold Vhd;rw[if_pos h,if_neg this]
  ·rw[if_pos h2] at h0;exact absurd h0 h2
 ·rw[if_pos h1] at h0;exact absurd h0 h1
theorem Vgr {l:List No} {i:Nat} {x y:No} (hx:l[i]?=some x) (hy:y∈l):y=x∨y∈l.eraseIdx i:=by
 rw[Q7h hx] at hy;rw[Qxd];rcases List.mem_append.1 hy with h|h
 ·exact .inr (List.mem_append_left _ h)
 ·rcases List.mem_cons.1 h with h|h
  ·exact .inl h
  ·exact .inr (List.mem_append_right _ h)
theorem hasN_true {l:List No} {n:No}:Qu8 l n=true↔∃x∈l,x.site=n.site∧x.number=n.number:=by
 unfold Qu8;rw[List.any_eq_true];simp[ordN_zero]
inductive RunK:Dk→List No→Dk→Prop
 |nil (d:Dk):RunK d [] d
 |cons {d e:Dk} {i:Nat} {x:No} {t:St} {xs:List No}:Qb5 d.seen x=true→d.waits[i]?=some x→Qfc d.state x.deeds=some t→RunK (Ql6 d i x t) xs e→RunK d (x::xs) e
theorem Vgp:∀{k:Nat} {d e:Dk},d.waits.length<k→Qkp k d=some e→∃xs,RunK d xs e∧∀n∈e.waits,Qb5 e.seen n=false
 |0,d,e,hk,_=>by omega
 |k+1,d,e,hk,h=>by
  unfold Qkp at h;cases hf:d.waits.findIdx? (Qb5 d.seen) with
  |none=>
   rw[hf] at h;injection h with h
   subst h;refine⟨[],.nil d,fun n hn=> ?_⟩;have:=List.findIdx?_eq_none_iff.1 hf n hn;simpa using this
  |some i=>
   rw[hf] at h;obtain⟨hi,hr,_⟩:=List.findIdx?_eq_some_iff_getElem.1 hf;have hx:d.waits[i]?=some d.waits[i]:=List.getElem?_eq_getElem hi;simp only[hx] at h;cases hd:Qfc d.state d.waits[i].deeds with
   |none=>rw[hd] at h;cases h
   |some t=>
    rw[hd] at h;have hlen:(Ql6 d i d.waits[i] t).waits.length=d.waits.length-1:=List.length_eraseIdx_of_lt hi;obtain⟨xs,h1,h2⟩:=Vgp (k:=k) (by rw[hlen];omega) h;exact⟨_,.cons hr hx hd h1,h2⟩
theorem Vi7 {d e:Dk} {xs:List No} (h:RunK d xs e) (hm:MidK d):MidK e:=by
 induction h with
 |nil=>exact hm
 |cons h1 h2 h3 _ ih=>exact ih (Q5u hm h1 h2 h3)
theorem Vgs {d:Dk} (h:MidK d) (hl:d.waits.length≤40) (hr:∀n∈d.waits,Qb5 d.seen n=false):RightK d:=
 ⟨h.site,h.state,h.seen,hl,h.lo,h.nw,h.no,h.sorted,fun n hn=>⟨(h.waits n hn).1,(h.waits n hn).2.1,(h.waits n hn).2.2,hr n hn⟩,h.out,h.last,h.clock⟩
theorem Vf2 {d:Dk} {n:No} (h:Q2d d n=0):(Qva d n=true∧Q55 d n=d)∨(Qva d n=false∧Qfq d n=false∧∃x,Vbj d n=some x∧Q55 d n=x∧x.waits.length≤40):=by
 unfold Q2d at h;cases h1:Qva d n with
 |true=>exact .inl ⟨rfl,by unfold Q55;rw[if_pos h1]⟩
 |false=>
  rw[h1,if_neg sI] at h;cases h2:Qfq d n with
  |true=>rw[h2,if_pos rfl] at h;cases h
  |false=>
   rw[h2,if_neg sI] at h;cases h3:Vbj d n with
   |none=>rw[h3] at h;cases h
   |some x=>
    rw[h3] at h;by_cases h4:40<x.waits.length
    ·simp only[if_pos h4] at h;cases h
    ·exact .inr ⟨rfl,rfl,x,rfl,by unfold Q55;rw[if_neg (by rw[h1];simp),h3];rfl,oM⟩
theorem Vin {d:Dk} {n:No} {x:Dk} (h:Vbj d n=some x):∃xs,RunK (Q4y d n) xs x∧∀y∈x.waits,Qb5 x.seen y=false:=
 Vgp (by show(Qu9 d.waits n).length<_;rw[Qxf];omega) h
theorem Vim {d:Dk} {n:No} (h:RightK d) (hn:Qa0 n=0) (e:Q2d d n=0):RightK (Q55 d n):=by
 rcases Vf2 e with⟨_,h1⟩|⟨h1,h2,x,h3,h4,h5⟩
 ·rw[h1];exact h
 ·rw[h4];obtain⟨xs,k1,k2⟩:=Vin h3;exact Vgs (Vi7 k1 (add_mid h hn h1 h2)) h5 k2
theorem Vf0 {d:Dk} {a n:Int} (h:Q5n d a n=0):RightK (Q5o d a n):=by
 obtain⟨h1,h2,h3⟩:=Qu3 h;have h':Qd2 d (Qhh (d,[]) a n) (Qhi (d,[]) a n)=0:=h;unfold Q5o Qhg;rw[if_pos h'];exact Qi9 (Qpq (Qee h1) h2) h3
structure Lvl (q:List Int) (xs:List No) (p:List Int):Prop where
 up:∀j,j<5→atI q j≤atI p j
 from_:∀(j:Nat) (m:Int),j<5→atI q j<m→m≤atI p j→∃x∈xs,x.site.toNat=j∧x.number=m
 done:∀x∈xs,x.number≤atI p x.site.toNat
theorem Vg8 (q:List Int):Lvl q [] q:=⟨fun _ _=>Int.le_refl _,fun j m _ h1 h2=>by omega,fun x h=>by simp at h⟩
theorem Ve0 {q p r:List Int} {xs ys:List No} (h:Lvl q xs p) (k:Lvl p ys r) (hx:∀x∈xs,x.site.toNat<5):Lvl q (xs++ys) r:=by
 refine⟨fun j hj=>Int.le_trans (h.up j hj) (k.up j hj),fun j m hj h1 h2=> ?_,fun x hx'=> ?_⟩
 ·by_cases h3:m≤atI p j
  ·obtain⟨x,h4,h5⟩:=h.from_ j m hj h1 h3;exact⟨x,List.mem_append_left _ h4,h5⟩
  ·obtain⟨x,h4,h5⟩:=k.from_ j m hj oM h2;exact⟨x,List.mem_append_right _ h4,h5⟩
 ·rcases List.mem_append.1 hx' with h4|h4
  ·exact Int.le_trans (h.done x h4) (k.up _ (hx x h4))
  ·exact k.done x h4
theorem Vks {q:List Int} {x:No} (h:Qb5 q x=true) (hq:x.site.toNat<q.length):Lvl q [x] (Qd3 q x.site.toNat):=by
 obtain⟨_,r2⟩:=readyB_iff.1 h;have hb:∀j,atI (Qd3 q x.site.toNat) j=if x.site.toNat=j then atI q j+1 else atI q j:=Q1j hq
 refine⟨fun j _=> ?_,fun j m _ h1 h2=> ?_,fun y hy=> ?_⟩
 ·rw[hb];split<;>omega
 ·rw[hb] at h2;by_cases e:x.site.toNat=j
  ·rw[if_pos e] at h2;subst e;exact⟨x,List.mem_singleton.2 rfl,rfl,oM⟩
  ·rw[if_neg e] at h2;omega
 ·rw[List.mem_singleton.1 hy,hb,if_pos rfl];omega
def Tr (q:List Int) (xs:List No):Prop:=∀(i:Nat) (x:No),xs[i]?=some x→∃p,Lvl q (xs.take i) p∧Qb5 p x=true
theorem Vkl (q:List Int):Tr q []:=fun i x h=>by simp at h
theorem Vk2 {q p:List Int} {x:No} {xs:List No} (h:Qb5 q x=true) (k:Lvl q [x] p) (t:Tr p xs) (h5:x.site.toNat<5):Tr q (x::xs):=fun i y hy=>by
 cases i with
 |zero=>
  obtain rfl:x=y:=by simpa using hy
  exact⟨q,Vg8 q,h⟩
 |succ i=>
  obtain⟨r,h1,h2⟩:=t i y (by simpa using hy);refine⟨r,?_,h2⟩;rw[List.take_succ_cons];exact Ve0 k h1 (fun z hz=>by rw[List.mem_singleton.1 hz];exact h5)
theorem Vlf {q p:List Int} {xs ys:List No} (h:Tr q xs) (k:Lvl q xs p) (t:Tr p ys) (h5:∀x∈xs,x.site.toNat<5):Tr q (xs++ys):=fun i y hy=>by
 by_cases hi:i<xs.length
 ·rw[List.getElem?_append_left hi] at hy;obtain⟨r,h1,h2⟩:=h i y hy;exact⟨r,by rw[List.take_append_of_le_length oM];exact h1,h2⟩
 ·rw[List.getElem?_append_right oM] at hy;obtain⟨r,h1,h2⟩:=t _ y hy;refine⟨r,?_,h2⟩;rw[List.take_append,List.take_of_length_le oM];exact Ve0 k h1 h5
theorem Vj8 {d e:Dk} {xs:List No} (h:RunK d xs e):e.site=d.site∧e.clock=d.clock∧e.out=d.out:=by
 induction h with
 |nil=>exact⟨rfl,rfl,rfl⟩
 |cons _ _ _ _ ih=>exact ih
theorem Vi8 {d e:Dk} {xs:List No} (h:RunK d xs e):Qfc d.state (xs.flatMap (·.deeds))=some e.state:=by
 induction h with
 |nil=>rfl
 |cons _ _ h3 _ ih=>
  rw[List.flatMap_cons,Qr0,h3];exact ih
theorem Vj9 {d e:Dk} {xs:List No} (h:RunK d xs e):∀y,(y∈xs∨y∈e.waits)↔y∈d.waits:=by
 induction h with
 |nil=>intro y;simp
 | @cons d e i x t xs _ h2 _ _ ih=>
  intro y;have hi:=ih y;have hw:(Ql6 d i x t).waits=d.waits.eraseIdx i:=rfl;rw[hw] at hi;constructor
  ·rintro(h|h)
   ·rcases List.mem_cons.1 h with rfl|h
    ·exact List.mem_of_getElem? h2
    ·exact Qin (hi.1 (.inl h))
   ·exact Qin (hi.1 (.inr h))
  ·intro h;rcases Vgr h2 h with rfl|h
   ·exact .inl (List.mem_cons_self ..)
   ·rcases hi.2 h with h|h
    ·exact .inl (List.mem_cons_of_mem _ h)
    ·exact .inr h
theorem Vjy {d:Dk} (h:MidK d) {n:No} (hn:n∈d.waits):n.site.toNat<5:=by
 have:=(checkN_right.1 (h.nw n hn)).site;omega
theorem Vk0 {d e:Dk} {xs:List No} (h:RunK d xs e) (hm:MidK d):Lvl d.seen xs e.seen∧Tr d.seen xs:=by
 induction h with
 |nil d=>exact⟨Vg8 _,Vkl _⟩
 | @cons d e i x t xs h1 h2 h3 h4 ih=>
  obtain⟨i1,i2⟩:=ih (Q5u hm h1 h2 h3);have h5:=Vjy hm (List.mem_of_getElem? h2);have l1:Lvl d.seen [x] (Ql6 d i x t).seen:=Vks h1 (by rw[(checkI_iff.1 hm.seen).1];exact h5);exact⟨Ve0 (xs:=[x]) l1 i1 (fun z hz=>by rw[List.mem_singleton.1 hz];exact h5),Vk2 h1 l1 i2 h5⟩
structure AccK (d:Dk) (ns:List No) (e:Dk) (xs:List No):Prop where
 right:RightK e
 site:e.site=d.site
 out:e.out=d.out
 pool:∀y,(y∈xs∨y∈e.waits)↔(y∈d.waits∨(y∈ns∧Qva d y=false))
 lvl:Lvl d.seen xs e.seen
 tr:Tr d.seen xs
 st:Qfc d.state (xs.flatMap (·.deeds))=some e.state
 clock:∀c,e.clock≤c↔d.clock≤c∧∀n∈ns,Qva d n=false→1+Qhz d.site n.deeds≤c
 ok:∀n∈ns,Qa0 n=0
theorem Vie {d:Dk} (h:RightK d):AccK d [] d []:=
 ⟨h,rfl,rfl,fun y=>by simp,Vg8 _,Vkl _,rfl,fun c=>by simp,fun n hn=>by simp at hn⟩
theorem Vfh {d e:Dk} {ns xs:List No} (hd:RightK d) (h:AccK d ns e xs) {x:No} (hx:x∈xs):x.site.toNat<5∧Qa0 x=0:=by
 have:Qa0 x=0:=by
  rcases(h.pool x).1 (.inl hx) with h1|⟨h1,_⟩
  ·exact hd.nw x h1
  ·exact h.ok x h1
 have h2:=(checkN_right.1 this).site;exact⟨oM,this⟩
theorem Vis {l:List No} {x n:No} (hx:x∈l) (h1:x.site=n.site) (h2:x.number=n.number):Qu8 l n=true:=hasN_true.2 ⟨x,hx,h1,h2⟩
theorem Vjh {d e:Dk} {ns xs:List No} {n:No} (hd:RightK d) (h:AccK d ns e xs) (hn:Qa0 n=0) (hE:Q2d e n=0) (hu:∀m∈ns,m.site=n.site→m.number=n.number→m=n):
  ∃ys,AccK d (ns++[n]) (Q55 e n) ys:=by
 have hN:=(checkN_right.1 hn).site;have hn5:n.site.toNat<5:=oM;have hok:∀m∈ns++[n],Qa0 m=0:=fun m hm=>by
  rcases List.mem_append.1 hm with hm|hm
  ·exact h.ok m hm
  ·rw[List.mem_singleton.1 hm];exact hn
 have hkey:∀x,(x∈xs∨x∈e.waits)→x.site=n.site→x.number=n.number→Qva d n=true∨n∈ns:=fun x hx h1 h2=>by
  rcases(h.pool x).1 hx with h3|⟨h3,_⟩
  ·left
   cases h4:Qva d n with
   |true=>rfl
   |false=>have:=(oldK_false.1 h4).2.2;rw[Vis h3 h1 h2] at this;cases this
  ·right
   rw[←hu x h3 h1 h2];exact h3
 rcases Vf2 hE with⟨h1,h2⟩|⟨h1,h2,x,h3,h4,h5⟩
 ·rw[h2];have hold:Qva d n=true∨n∈ns:=by
   by_cases g1:n.site=e.site
   ·left
    unfold Qva;rw[show(n.site==d.site)=true by rw[←h.site];simpa using g1];rfl
   ·by_cases g2:n.number≤atI e.seen n.site.toNat
    ·by_cases g3:n.number≤atI d.seen n.site.toNat
     ·left
      unfold Qva;rw[decide_eq_true g3];simp
     ·obtain⟨x,k1,k2,k3⟩:=h.lvl.from_ n.site.toNat n.number hn5 oM g2;have k4:=(checkN_right.1 (Vfh hd h k1).2).site;exact hkey x (.inl k1) (Qsx k4.1 hN.1 k2) k3
    ·cases g3:Qu8 e.waits n with
     |false=>rw[oldK_false.2 ⟨g1,oM,g3⟩] at h1;cases h1
     |true=>
      obtain⟨x,k1,k2,k3⟩:=hasN_true.1 g3;exact hkey x (.inr k1) k2 k3
  have hset:∀y,(y∈ns++[n]∧Qva d y=false)↔(y∈ns∧Qva d y=false):=fun y=>by
   constructor
   ·rintro⟨k1,k2⟩;rcases List.mem_append.1 k1 with k1|k1
    ·exact⟨k1,k2⟩
    ·rw[List.mem_singleton.1 k1] at k2 ⊢;rcases hold with k3|k3
     ·rw[k3] at k2;cases k2
     ·exact⟨k3,k2⟩
   ·rintro⟨k1,k2⟩;exact⟨List.mem_append_left _ k1,k2⟩
  refine⟨xs,h.right,h.site,h.out,fun y=>by rw[h.pool y,hset y],h.lvl,h.tr,h.st,fun c=> ?_,hok⟩;rw[h.clock c];constructor
  ·rintro⟨k1,k2⟩;exact⟨k1,fun m hm ho=>k2 m ((hset m).1 ⟨hm,ho⟩).1 ho⟩
  ·rintro⟨k1,k2⟩;exact⟨k1,fun m hm ho=>k2 m (List.mem_append_left _ hm) ho⟩
 ·obtain⟨ys,k1,k2⟩:=Vin h3;have hm:=add_mid h.right hn h1 h2;obtain⟨l1,l2⟩:=Vk0 k1 hm;obtain⟨e1,e2,e3⟩:=Vj8 k1;have hold:Qva d n=false:=by
   obtain⟨o1,o2,o3⟩:=oldK_false.1 h1;refine oldK_false.2 ⟨by rw[←h.site];exact o1,Int.lt_of_le_of_lt (h.lvl.up _ hn5) o2,?_⟩;cases g:Qu8 d.waits n with
   |false=>rfl
   |true=>
    obtain⟨x0,g1,g2,g3⟩:=hasN_true.1 g;rcases(h.pool x0).2 (.inl g1) with g4|g4
    ·have:=h.lvl.done x0 g4;rw[g2,g3] at this;omega
    ·rw[Vis g4 g2 g3] at o3;cases o3
  rw[h4];refine⟨xs++ys,Vgs (Vi7 k1 hm) h5 k2,e1.trans h.site,e3.trans h.out,fun y=> ?_,Ve0 h.lvl l1 (fun x hx=>(Vfh hd h hx).1),Vlf h.tr h.lvl l2 (fun x hx=>(Vfh hd h hx).1),?_,fun c=> ?_,hok⟩
  ·have hp:=Vj9 k1 y;have hw:(Q4y e n).waits=Qu9 e.waits n:=rfl;rw[hw,mem_insN] at hp;have hq:=h.pool y;rw[List.mem_append,List.mem_append,List.mem_singleton];constructor
   ·rintro((g|g)|g)
    ·rcases hq.1 (.inl g) with g|g
     ·exact .inl g
     ·exact .inr ⟨.inl g.1,g.2⟩
    ·rcases hp.1 (.inl g) with rfl|g
     ·exact .inr ⟨.inr rfl,hold⟩
     ·rcases hq.1 (.inr g) with g|g
      ·exact .inl g
      ·exact .inr ⟨.inl g.1,g.2⟩
    ·rcases hp.1 (.inr g) with rfl|g
     ·exact .inr ⟨.inr rfl,hold⟩
     ·rcases hq.1 (.inr g) with g|g
      ·exact .inl g
      ·exact .inr ⟨.inl g.1,g.2⟩
   ·intro g;have:y=n∨(y∈xs∨y∈e.waits):=by
     rcases g with g|⟨g|g,g'⟩
     ·exact .inr (hq.2 (.inl g))
     ·exact .inr (hq.2 (.inr ⟨g,g'⟩))
     ·exact .inl g
    rcases this with g|g|g
    ·rcases hp.2 (.inl g) with g|g
     ·exact .inl (.inr g)
     ·exact .inr g
    ·exact .inl (.inl g)
    ·rcases hp.2 (.inr g) with g|g
     ·exact .inl (.inr g)
     ·exact .inr g
  ·rw[List.flatMap_append,Qr0,h.st]
   show Qfc (Q4y e n).state _=some _
   exact Vi8 k1
  ·have hc:(Q4y e n).clock=Qk4 e.clock (1+Qhz e.site n.deeds):=rfl;rw[e2,hc,maxI_le,h.clock c,h.site];constructor
   ·rintro⟨⟨g1,g2⟩,g3⟩;refine⟨g1,fun m hm ho=> ?_⟩;rcases List.mem_append.1 hm with hm|hm
    ·exact g2 m hm ho
    ·rw[List.mem_singleton.1 hm];exact g3
   ·rintro⟨g1,g2⟩;exact⟨⟨g1,fun m hm ho=>g2 m (List.mem_append_left _ hm) ho⟩,g2 n (List.mem_append_right _ (List.mem_singleton.2 rfl)) hold⟩
theorem Vlc {d:Dk} {n:No} (h:Q3r d n=0):RightK d∧Qa0 n=0∧Q2d d n=0∧Van d n=Q55 d n:=by
 have hv:Van d n=Q55 d n:=by unfold Van;rw[if_pos h]
 unfold Q3r at h;by_cases h1:Qaq d=0
 ·rw[if_neg (by simpa using h1)] at h;by_cases h2:Qa0 n=0
  ·rw[if_neg (by simpa using h2)] at h;exact⟨checkK_ok.1 h1,h2,h,hv⟩
  ·rw[if_pos h2] at h;exact absurd h h2
 ·rw[if_pos h1] at h;exact absurd h h1
def Vd9 (d:Dk) (l:List No):Option Dk:=l.foldl (fun o n=>o.bind fun e=>if Q3r e n=0 then some (Van e n) else none) (some d)
theorem Vey:∀(l:List No),l.foldl (fun(o:Option Dk) n=>o.bind fun e=>if Q3r e n=0 then some (Van e n) else none) none=none
 | []=>rfl
 |n::r=>Vey r
theorem Vhe (d:Dk) (l:List No) (n:No):Vd9 d (l++[n])=(Vd9 d l).bind fun e=>if Q3r e n=0 then some (Van e n) else none:=by
 unfold Vd9;rw[List.foldl_append];rfl
theorem Vfs {d:Dk} {l:List No} {k:Nat} {n:No} (h:l[k]?=some n):Vd9 d (l.take (k+1))=(Vd9 d (l.take k)).bind fun e=>if Q3r e n=0 then some (Van e n) else none:=by
 obtain⟨h1,h2⟩:=List.getElem?_eq_some_iff.1 h;rw[List.take_succ_eq_append_getElem h1,h2,Vhe]
theorem Vjr {d:Dk} {n:No} (h:Q3r d n=0):RightK (Van d n)∧(Van d n).site=d.site∧(Van d n).out=d.out∧d.clock≤(Van d n).clock∧Qgh (Van d n).seen d.seen=true∧
  (∀m∈d.state.2,Qc5 (Van d n).state.2 m=true)∧∀y∈d.waits,(y∈(Van d n).waits∧¬y.number≤atI (Van d n).seen y.site.toNat)∨(y.number≤atI (Van d n).seen y.site.toNat∧∀z∈(Van d n).waits,Qdz z y≠0):=by
 obtain⟨hd,hn,hE,hv⟩:=Vlc h;obtain⟨xs,acc⟩:=Vjh hd (Vie hd) hn hE (fun m hm=>by simp at hm);rw[hv];refine⟨acc.right,acc.site,acc.out,((acc.clock _).1 (Int.le_refl _)).1,Qze.2 (fun i hi=>acc.lvl.up i hi),fun m hm=> ?_,fun y hy=> ?_⟩
 ·refine hasG_iff.2 ((Q1z hd.state (fun z hz=> ?_) acc.st).2 (.inl hm));obtain⟨x,h1,h2⟩:=List.mem_flatMap.1 hz;exact(checkN_right.1 (Vfh hd acc h1).2).deeds z h2
 ·rcases(acc.pool y).2 (.inl hy) with h1|h1
  ·right
   refine⟨acc.lvl.done y h1,fun z hz e=> ?_⟩;obtain⟨e1,e2⟩:=ordN_zero.1 e;have h2:=(acc.right.waits z hz).2.1;rw[e1,e2] at h2;have:=acc.lvl.done y h1;omega
  ·left
   exact⟨h1,by have:=(acc.right.waits y h1).2.1;omega⟩
theorem Vkp {d:Dk} {a n:Int} (h:Q5n d a n=0):RightK d∧Qs2 d.state a n=0∧((Qnh d.state a n=[]∧Q5o d a n=d)∨(Qnh d.state a n≠[]∧∃s,Qfc d.state (Qnh d.state a n)=some s∧Q5o d a n=Qu6 d (Qnh d.state a n) s 0∧RightK (Q5o d a n))):=by
 obtain⟨h1,h2,h3⟩:=Qu3 h;obtain⟨hc,ha⟩:=Q10 (show doE (d,[]) (Qs2 d.state a n) (Qnh d.state a n)=0 from h2);have hv:Q5o d a n=Qnb (Qhi (d,[]) a n):=by
  have h':Qd2 d (Qhh (d,[]) a n) (Qhi (d,[]) a n)=0:=h;unfold Q5o Qhg;rw[if_pos h']
 have h2':(Qhi (d,[]) a n).2=Qnh d.state a n:=rfl;have h1':(Qhi (d,[]) a n).1={d with state:=Qrn d.state (Qnh d.state a n)}:=rfl;refine⟨h1,hc,?_⟩;by_cases h4:Qnh d.state a n=[]
 ·left
  refine⟨h4,?_⟩;rw[hv];unfold Qnb;rw[h2',if_pos h4,h1',(Q72 h1.state (Qpm hc) (t:=d.state) (by rw[h4];rfl)).2]
 ·right
  have hdo:=Q71 (show Qne d.state (Qnh d.state a n)=0 from ha);refine⟨h4,_,hdo,?_,Vf0 h⟩;rw[hv];unfold Qnb Qu6;rw[h2',if_neg h4,h1',Int.add_zero];rfl
end Go.Proofs.YtgnccjojfebkeaaGreat
