/- What was seen: what is wrong with it; is one as much; both joined. -/
import Derived.Test.YtgnccjojfebkeaaGreatQa70fadfe36
import Derived.Test.YtgnccjojfebkeaaGreatQ463d8804a1
import Derived.Test.YtgnccjojfebkeaaGreatQbba74dd308
import Derived.Test.YtgnccjojfebkeaaGreatQe1b3bbb0d1
import Derived.Test.YtgnccjojfebkeaaGreatQed8dd0ae12
set_option linter.unusedVariables false
set_option linter.unusedSimpArgs false
set_option maxRecDepth 100000
set_option maxHeartbeats 4000000
namespace Go.Proofs.YtgnccjojfebkeaaGreat
open Go Go.RowKit Go.BigFrame Cp
def Vd7 (l m:List Int):Int:=if Qbx l≠0 then Qbx l else Qbx m
def Vfj (l m:List Int):List Int:=Vao (fun i=>Qk4 (atI l i) (atI m i)) 5
theorem Ved {l m:List Int} (h:Vd7 l m=0):Qbx l=0∧Qbx m=0:=by
 unfold Vd7 at h;by_cases h1:Qbx l≠0
 ·rw[if_pos h1] at h;exact absurd h h1
 ·rw[if_neg h1] at h;exact⟨oM,h⟩
theorem Veh {F G:Nat→Prop} {w:World} {v u:Value} {l m:List Int} (h:RSl Qe1 1 F w v l) (k:RSl Qe1 1 G w u m):
  Calls Tryz.prog 108 #[v,u] w fun e w'=>e= .returned (.int .i64 (Vd7 l m))∧Ext w w':=by
 have HL:=hH (fun(W:World) (hx:Ext w W)=>Qyo (h.ext Qd6 hx));have HM:=hH (fun(W:World) (hx:Ext w W)=>Qyo (k.ext Qd6 hx));obtain⟨a,n,c,rfl⟩:=h.slice;obtain⟨a2,n2,c2,rfl⟩:=k.slice;clear h k;unfold Vd7;by_cases h0:Qbx l=0
 ·rw[if_neg (by simpa using h0)];rw[h0] at HL;clear h0;go_enter Tryz.func108,Tryz.ntmps108;go_wp2_with (first
   |(go_at_call 76;(with_reducible refine(HL.o _ Qac).mono ?_);rintro e w1 ⟨rfl,hx1⟩;clear HL)
   |(go_at_call 76;(with_reducible refine(HM.o _ Qac).mono ?_);rintro e w2 ⟨rfl,hx2⟩))
  go_ret;exact⟨rfl,Qac⟩
 ·rw[if_pos h0];have t1:(Qbx l !=0)=true:=by simpa using h0
  generalize Qbx l=r at *;clear h0;go_enter Tryz.func108,Tryz.ntmps108;go_wp2_with (first
   |(go_at_call 76;(with_reducible refine(HL.o _ Qac).mono ?_);rintro e w1 ⟨rfl,hx1⟩;clear HL))
  go_ret;exact⟨rfl,Qac⟩
theorem Veb {F G:Nat→Prop} {w:World} {v u:Value} {l m:List Int} (h:RSl Qe1 1 F w v l) (k:RSl Qe1 1 G w u m):
  Calls Tryz.prog 59 #[v,u] w fun e w'=>e= .returned (.tuple #[.bool (if Vd7 l m=0 then Qgh l m else false),.int .i64 (Vd7 l m)])∧Ext w w':=by
 have HB:=hH (fun(W:World) (hx:Ext w W)=>Veh (h.ext Qd6 hx) (k.ext Qd6 hx));have HL:=hH (fun(h5:l.length=5) (k5:m.length=5) (W:World) (hx:Ext w W)=>Qzd (h.ext Qd6 hx) (k.ext Qd6 hx) h5 k5);obtain⟨a,n,c,rfl⟩:=h.slice;obtain⟨a2,n2,c2,rfl⟩:=k.slice;clear h k;by_cases h0:Vd7 l m=0
 ·rw[if_pos h0,h0];have HK:=hH (HL.o (Qhp (Ved h0).1).1 (Qhp (Ved h0).2).1);rw[h0] at HB;generalize Qgh l m=bb at *;clear h0 HL;go_enter Tryz.func59,Tryz.ntmps59;go_wp2_with (first
   |(go_at_call 108;go_must ((with_reducible refine(HB.o _ Qac).mono ?_);rintro e w1 ⟨rfl,hx1⟩))
   |(go_at_call 134;go_must ((with_reducible refine(HK.o _ Qac).mono ?_);rintro e w2 ⟨rfl,hx2⟩)))
  refine bodyPost_ret (v:= .tuple #[.bool bb,.int .i64 0]) (by simp[results,Tryz.results59,go_sem]) rfl ⟨rfl,Qac⟩
 ·rw[if_neg h0];have t1:(Vd7 l m !=0)=true:=by simpa using h0
  generalize Vd7 l m=r at *;clear h0 HL;go_enter Tryz.func59,Tryz.ntmps59;go_wp2_with (first
   |(go_at_call 108;go_must ((with_reducible refine(HB.o _ Qac).mono ?_);rintro e w1 ⟨rfl,hx1⟩)))
  refine bodyPost_ret (v:= .tuple #[.bool false,.int .i64 r]) (by simp[results,Tryz.results59,go_sem]) rfl ⟨rfl,Qac⟩
def Vex (l:List Int) (er:Int) (w:World) (e:Ending) (w':World):Prop:=∃v,e= .returned (.tuple #[v,.int .i64 er])∧RSl Qe1 1 (fun k=>w.heap.size≤k) w' v l∧Ext w w'
theorem Ve0 {l m:List Int} {i:Nat} (h:∀x∈l,I64 x) (k:∀x∈m,I64 x):I64 (Qk4 (atI l i) (atI m i)):=by
 have h0:I64 (0:Int):=by unfold I64;omega
 have h1:I64 (atI l i):=by
  unfold atI;cases e:l[i]? with
  |none=>exact h0
  |some x=>exact h x (List.mem_of_getElem? e)
 have h2:I64 (atI m i):=by
  unfold atI;cases e:m[i]? with
  |none=>exact h0
  |some x=>exact k x (List.mem_of_getElem? e)
 unfold Qk4;split
 ·exact h2
 ·exact h1
theorem Ver {F:Nat→Prop} {w:World} {v:Value} {l:List Int} (h:RSl Qe1 1 F w v l):∀x∈l,I64 x:=by
 intro x hx;obtain⟨a,n,c,rfl⟩:=h.slice;obtain⟨rfl,_,_⟩:=h.len;obtain⟨i,hi,e⟩:=List.mem_iff_getElem.1 hx;obtain⟨_,_,y,_,_,e1,i1,_⟩:=Qdb h hi;rw[List.getElem?_eq_getElem hi,e] at e1;have:x=y:=by simpa using e1
 subst this;exact i1
theorem Ve8 {F G:Nat→Prop} {w:World} {v u:Value} {l m:List Int} (h:RSl Qe1 1 F w v l) (k:RSl Qe1 1 G w u m):
  Calls Tryz.prog 43 #[v,u] w (Vex (if Vd7 l m=0 then Vfj l m else []) (Vd7 l m) w):=by
 have HB:=hH (fun(W:World) (hx:Ext w W)=>Veh (h.ext Qd6 hx) (k.ext Qd6 hx));have HC:=hH (fun(h5:l.length=5) (W:World) (hx:Ext w W)=>Qhr (h.ext Qd6 hx) oM);have HM:=hH (fun(W:World) (hx:Ext w W)=>k.ext Qd6 hx);have HI:=hH (fun(i:Nat)=>Ve0 (i:=i) (Ver h) (Ver k));obtain⟨a,n,c,rfl⟩:=h.slice;obtain⟨a2,n2,c2,rfl⟩:=k.slice;have hn2:=k.len.1;clear h k;by_cases h0:Vd7 l m=0
 ·rw[if_pos h0,h0];have hl5:=(Qhp (Ved h0).1).1;have hm5:=(Qhp (Ved h0).2).1;obtain rfl:n2=5:=hn2.trans hm5;have HK:=hH (HC.o hl5);have HR:=hH (Qpf hl5);obtain⟨b2,o2,_,rfl,hb2,_⟩:=Qdb (HM.o w (ext_refl _)) (i:=0) oM;rw[h0] at HB;clear h0 HC hl5 hm5 hn2;go_enter Tryz.func43,Tryz.ntmps43;go_wp2_with (first
   |(go_at_call 108;go_must ((with_reducible refine(HB.o _ Qac).mono ?_);rintro e w1 ⟨rfl,hx1⟩))
   |(go_at_call 109;go_must ((with_reducible refine(HK.o _ Qac).mono ?_);rintro e w2 ⟨v2,rfl,hv2,hx2⟩;rw[HR.o] at hv2;obtain⟨a3,n3,c3,rfl⟩:=Qab hv2;obtain⟨g3,_,_,hn3,rfl,hg3,hs3,_⟩:=Qlb hv2 (i:=0) (by rw[Qx9];omega);rw[Qx9] at hn3;subst hn3;have HO:=hH (Qcx (base':=w.heap.size) (Ext.size hx1) hv2);have hg3':w.heap.size≤g3:=Nat.le_trans (Ext.size hx1) hg3;clear hv2)))
  have HX0:=hH (ext_trans hx1 hx2);clear hx1 hx2;go_loopw [20] (fun i wr=>∃q:Nat,q≤5∧i= .int .i64 q∧Hid (OSl Qe1 1 3 w.heap.size (fun _=>True) wr (.slice (some ⟨g3,0,none⟩) 5 c3) (Vao (fun j=>if j<q then Qk4 (atI l j) (atI m j) else atI l j) 5))∧Ext w wr) (fun i _=>5-(intOf i).toNat)
  case atStart=>exact⟨0,oM,rfl,HO,HX0.o⟩
  case round=>
   obtain⟨q,hq,rfl,HI2,hx⟩:=hrel;have HX:=hH hx;have hzr:=hx.size;clear hx;by_cases hlt:q<5
   ·obtain⟨b,o,y,ea,hb,e2,_,ca2⟩:=Qdb (HM.o wr HX.o) hlt;obtain⟨rfl,rfl⟩:b2=b∧o2=o:=by injection ea with ea;injection ea with ea1 ea2;exact⟨ea1,ea2⟩
    obtain⟨_,hgw,r0,_,rf⟩:=Quo HI2.o hlt;rw[if_neg (Nat.lt_irrefl q)] at r0;have hyy:=Qe2 e2;subst hyy;have hn1:¬b2=g3:=oM;have hn2:¬g3=b2:=oM;have HP:=hH (Vfl (f':=fun j=>if j<q+1 then Qk4 (atI l j) (atI m j) else atI l j) HI2.o hlt (HI.o q) (fun j hj=>by
     by_cases h1:j=q
     ·subst h1;rw[if_pos oM,if_pos rfl]
     ·rw[if_neg h1];by_cases h2:j<q
      ·rw[if_pos oM,if_pos h2]
      ·rw[if_neg oM,if_neg h2]))
    clear ea e2;go_wp2_with fail
    go_roundw
    case rel=>exact⟨q+1,oM,by go_num,HP,ext_set HX.o sO _⟩
    case measure=>simp[intOf];omega
   ·have hq5:q=5:=oM;have hi:=HI2.o;rw[hq5] at hi;have HF:=hH (Q6w hi);have e1:Vao (fun j=>if j<5 then Qk4 (atI l j) (atI m j) else atI l j) 5=Vfj l m:=Vfc (fun j hj=>if_pos hj);rw[e1] at HF;clear hq5 hi e1 HI2;go_wp2
    refine bodyPost_ret (v:= .tuple #[.slice (some ⟨g3,0,none⟩) 5 c3,.int .i64 0]) (by simp[results,Tryz.results43,go_sem]) rfl ⟨_,rfl,HF.o,HX.o⟩
 ·rw[if_neg h0];have t1:(Vd7 l m !=0)=true:=by simpa using h0
  generalize Vd7 l m=r at *;clear h0 HC hn2;go_enter Tryz.func43,Tryz.ntmps43;go_wp2_with (first
   |(go_at_call 108;go_must ((with_reducible refine(HB.o _ Qac).mono ?_);rintro e w1 ⟨rfl,hx1⟩)))
  refine bodyPost_ret (v:= .tuple #[.slice none 0 0,.int .i64 r]) (by simp[results,Tryz.results43,go_sem]) rfl ⟨_,rfl,RSl.nil_ (Nat.zero_le _),Qac⟩
theorem Veg {p:Prop} (h:p:=by
 go_enter Tryz.func75,Tryz.ntmps75;go_wp2_with (first
  |(go_at_call 76;go_must ((with_reducible refine(HC.o _ Qac).mono ?_);rintro e w1 ⟨rfl,hx1⟩;have hz1:=hx1.size;(try simp at hz1);have hb1_0:=zL hx1 w.heap.size;obtain⟨p0,p1,p2,p3⟩:=cC4 hx1 (w.heap.size) (.int .i64 st) (.int .i64 nb) (.slice a2 n2 c2) (.slice a3 n3 c3)))
  |(go_at_call 74;go_must ((with_reducible refine(HK.o _ Qac).mono ?_);rintro e w2 ⟨rfl,hx2⟩;have hz2:=hx2.size;(try simp at hz2);have hb2_0:=zL hx2 w.heap.size;obtain⟨q0,q1,q2,q3⟩:=cC4 hx2 (w.heap.size) (.int .i64 st) (.int .i64 nb) (.slice a2 n2 c2) (.slice a3 n3 c3)))
  |(go_at_call 144;go_must ((with_reducible refine(HYY.o _ Qac).mono ?_);rintro e w3 ⟨rfl,hx3⟩)))
 first
 |(
   clear zqa;refine bodyPost_ret (v:= .tuple #[.bool bb,.int .i64 0]) (by simp[results,Tryz.results75,go_sem]) rfl ⟨rfl,Qac⟩
   done)
 |(
   clear zqb;refine bodyPost_ret (v:= .tuple #[.bool false,.int .i64 r]) (by simp[results,Tryz.results75,go_sem]) rfl ⟨rfl,Qac⟩
   done)):p:=h
theorem Ve3 {F G:Nat→Prop} {w:World} {v:Value} {cs:List Value} {l:List Int} {n:No} (h:RSl Qe1 1 F w v l) (k:RNo G w cs n):
  Calls Tryz.prog 75 #[v,.agg cs.toArray] w fun e w'=>e= .returned (.tuple #[.bool (if Qbx l=0∧Qa0 n=0 then Qb5 l n else false),.int .i64 (if Qbx l=0 then Qa0 n else Qbx l)])∧Ext w w':=by
 have HC:=hH (fun(W:World) (hx:Ext w W)=>Qyo (h.ext Qd6 hx));have HK:=hH (fun(W:World) (hx:Ext w W)=>Qjl (gNo.ext k hx));have HY:=hH (fun(h5:Qbx l=0) (k5:Qa0 n=0) (W:World) (hx:Ext w W)=>Qxr (h.ext Qd6 hx) (gNo.ext k hx) h5 k5);obtain⟨a,nl,c,rfl⟩:=h.slice;obtain⟨v1,u1,rfl,hs,hk,hl,hq⟩:=k;obtain⟨st,nb,ne,dd⟩:=n;simp only at hs hk hl hq HK HY ⊢;obtain⟨a2,n2,c2,rfl⟩:=hl.slice;obtain⟨a3,n3,c3,rfl⟩:=hq.slice;clear h hs hk hl hq;by_cases h0:Qbx l=0
 ·rw[if_pos h0];by_cases h1:Qa0 ⟨st,nb,ne,dd⟩=0
  ·rw[if_pos ⟨h0,h1⟩,h1];have HYY:=hH (HY.o h0 h1);rw[h0] at HC;rw[h1] at HK;generalize Qb5 l ⟨st,nb,ne,dd⟩=bb at *;clear HY h0 h1;have zqa:=trivial;exact Veg
  ·rw[if_neg (fun h=>h1 h.2)];rw[h0] at HC;have t1:(Qa0 ⟨st,nb,ne,dd⟩ !=0)=true:=by simpa using h1
   generalize Qa0 ⟨st,nb,ne,dd⟩=r at *;clear HY h0 h1;have zqb:=trivial;exact Veg
 ·rw[if_neg h0,if_neg (fun h=>h0 h.1)];have t1:(Qbx l !=0)=true:=by simpa using h0
  generalize Qbx l=r at *;clear HY h0;have zqb:=trivial;exact Veg
end Go.Proofs.YtgnccjojfebkeaaGreat
namespace Go.Proofs.YtgnccjojfebkeaaGreat
open Go Cp
theorem Vej {l:List No} {i:Nat} {x y:No} (hx:l[i]?=some x) (hy:y∈l):y=x∨y∈l.eraseIdx i:=by
 rw[Q7h hx] at hy;rw[Qxd];rcases List.mem_append.1 hy with h|h
 ·exact .inr (List.mem_append_left _ h)
 ·rcases List.mem_cons.1 h with h|h
  ·exact .inl h
  ·exact .inr (List.mem_append_right _ h)
theorem hasN_true {l:List No} {n:No}:Qu8 l n=true↔∃x∈l,x.site=n.site∧x.number=n.number:=by
 unfold Qu8;rw[List.any_eq_true];simp[ordN_zero]
inductive RunK:Dk→List No→Dk→Prop
 |nil (d:Dk):RunK d [] d
 |cons {d e:Dk} {i:Nat} {x:No} {t:St} {xs:List No}:Qb5 d.seen x=true→d.waits[i]?=some x→Qfc d.state x.deeds=some t→RunK (Ql6 d i x t) xs e→RunK d (x::xs) e
theorem Vei:∀{k:Nat} {d e:Dk},d.waits.length<k→Qkp k d=some e→∃xs,RunK d xs e∧∀n∈e.waits,Qb5 e.seen n=false
 |0,d,e,hk,_=>by omega
 |k+1,d,e,hk,h=>by
  unfold Qkp at h;cases hf:d.waits.findIdx? (Qb5 d.seen) with
  |none=>
   rw[hf] at h;injection h with h
   subst h;refine⟨[],.nil d,fun n hn=> ?_⟩;have:=List.findIdx?_eq_none_iff.1 hf n hn;simpa using this
  |some i=>
   rw[hf] at h;obtain⟨hi,hr,_⟩:=List.findIdx?_eq_some_iff_getElem.1 hf;have hx:d.waits[i]?=some d.waits[i]:=List.getElem?_eq_getElem hi;simp only[hx] at h;cases hd:Qfc d.state d.waits[i].deeds with
   |none=>rw[hd] at h;cases h
   |some t=>
    rw[hd] at h;have hlen:(Ql6 d i d.waits[i] t).waits.length=d.waits.length-1:=List.length_eraseIdx_of_lt hi;obtain⟨xs,h1,h2⟩:=Vei (k:=k) (by rw[hlen];omega) h;exact⟨_,.cons hr hx hd h1,h2⟩
theorem Vfn {d e:Dk} {xs:List No} (h:RunK d xs e) (hm:MidK d):MidK e:=by
 induction h with
 |nil=>exact hm
 |cons h1 h2 h3 _ ih=>exact ih (Q5u hm h1 h2 h3)
theorem Ve2 {d:Dk} (h:MidK d) (hl:d.waits.length≤40) (hr:∀n∈d.waits,Qb5 d.seen n=false):RightK d:=
 ⟨h.site,h.state,h.seen,hl,h.lo,h.nw,h.no,h.sorted,fun n hn=>⟨(h.waits n hn).1,(h.waits n hn).2.1,(h.waits n hn).2.2,hr n hn⟩,h.out,h.last,h.clock⟩
theorem Vev {d:Dk} {n:No} (h:Q2d d n=0):(Qva d n=true∧Q55 d n=d)∨(Qva d n=false∧Qfq d n=false∧∃x,Vbj d n=some x∧Q55 d n=x∧x.waits.length≤40):=by
 unfold Q2d at h;cases h1:Qva d n with
 |true=>exact .inl ⟨rfl,by unfold Q55;rw[if_pos h1]⟩
 |false=>
  rw[h1,if_neg sI] at h;cases h2:Qfq d n with
  |true=>rw[h2,if_pos rfl] at h;cases h
  |false=>
   rw[h2,if_neg sI] at h;cases h3:Vbj d n with
   |none=>rw[h3] at h;cases h
   |some x=>
    rw[h3] at h;by_cases h4:40<x.waits.length
    ·simp only[if_pos h4] at h;cases h
    ·exact .inr ⟨rfl,rfl,x,rfl,by unfold Q55;rw[if_neg (by rw[h1];simp),h3];rfl,oM⟩
theorem Vfh {d:Dk} {n:No} {x:Dk} (h:Vbj d n=some x):∃xs,RunK (Q4y d n) xs x∧∀y∈x.waits,Qb5 x.seen y=false:=
 Vei (by show(Qu9 d.waits n).length<_;rw[Qxf];omega) h
end Go.Proofs.YtgnccjojfebkeaaGreat
