/- Desks, plain: what grows; one note where none waits; a desk that pulls all; two that tell each other; what is typed and cut. -/
import Derived.Test.YtgnccjojfebkeaaGreatQ05c48fb51f
import Derived.Test.YtgnccjojfebkeaaGreatQ1396365854
import Derived.Test.YtgnccjojfebkeaaGreatQa70fadfe36
import Derived.Test.YtgnccjojfebkeaaGreatQ067801634e
import Derived.Test.YtgnccjojfebkeaaGreatQ7826b3be5b
import Derived.Test.YtgnccjojfebkeaaGreatQ721193eec0
set_option linter.unusedVariables false
set_option linter.unusedSimpArgs false
set_option maxRecDepth 100000
namespace Go.Proofs.YtgnccjojfebkeaaGreat
open Go Cp
theorem Vfm {s:Int} (h0:0≤s) (h4:s≤4):RightK (Vam s):=by
 refine⟨⟨h0,h4⟩,(checkS_fit.1 (show Qax ([],[])=0 by decide):Qpy ([],[])),(show Qbx [0,0,0,0,0]=0 by decide),Nat.zero_le _,Nat.zero_le _,fun n h=>(by cases h),fun n h=>(by cases h),List.Pairwise.nil,fun n h=>(by cases h),fun i n h=>(by simp[Vam] at h),?_,?_⟩
 ·show(0:Int)<1
  decide
 ·show(1:Int)≤1∧(1:Int)≤10001
  decide
theorem Vgi {d:Dk} {n:No} (hd:RightK d) (hn:Qa0 n=0) (hE:Q2d d n=0) (ho:Qva d n=false) (hw:d.waits=[]) (hw':(Q55 d n).waits=[]):
  Qfc d.state n.deeds=some (Q55 d n).state∧(Q55 d n).seen=Qd3 d.seen n.site.toNat∧(Q55 d n).out=d.out∧RightK (Q55 d n)∧(Q55 d n).site=d.site:=by
 obtain⟨xs,acc⟩:=Vfi hd (Ve3 hd) hn hE (fun m hm=>by simp at hm);rw[List.nil_append] at acc;have hx:∀y,y∈xs↔y=n:=fun y=>by
  have:=acc.pool y;rw[hw,hw'] at this;constructor
  ·intro h;rcases this.1 (.inl h) with h|⟨h,_⟩
   ·cases h
   ·exact List.mem_singleton.1 h
  ·rintro rfl;rcases this.2 (.inr ⟨List.mem_singleton.2 rfl,ho⟩) with h|h
   ·exact h
   ·cases h
 have hone:xs=[n]:=by
  cases xs with
  |nil=>exact absurd ((hx n).2 rfl) sI
  |cons a r=>
   have ea:=(hx a).1 (List.mem_cons_self ..);subst ea;cases r with
   |nil=>rfl
   |cons b r=>
    have eb:=(hx b).1 (List.mem_cons_of_mem _ (List.mem_cons_self ..));subst eb;obtain⟨p,h1,h2⟩:=acc.tr 1 b rfl;have h3:=h1.done b sI;have h4:=(readyB_iff.1 h2).2;omega
 subst hone;obtain⟨p,h1,h2⟩:=acc.tr 0 n rfl;have h5:=(Ven hd acc (List.mem_singleton.2 rfl)).1;have hp:atI p n.site.toNat=atI d.seen n.site.toNat:=by
  apply Int.le_antisymm
  ·by_cases h3:atI p n.site.toNat≤atI d.seen n.site.toNat
   ·exact h3
   ·obtain⟨x,k1,_⟩:=h1.from_ n.site.toNat _ h5 oM (Int.le_refl _);simp at k1
  ·exact h1.up _ h5
 have hnum:=(readyB_iff.1 h2).2;have hl5:=(checkI_iff.1 hd.seen).1;refine⟨by have:=acc.st;simpa using this,?_,acc.out,acc.right,acc.site⟩;refine Vf6 (checkI_iff.1 acc.right.seen).1 (by rw[Qw7];exact hl5) fun j hj=> ?_
 rw[Q1j oM];have hup:=acc.lvl.up j hj;have hdn:=acc.lvl.done n (List.mem_singleton.2 rfl);by_cases h3:atI (Q55 d n).seen j≤atI d.seen j
 ·by_cases e:n.site.toNat=j
  ·subst e;omega
  ·rw[if_neg e];omega
 ·obtain⟨x,k1,k2,k3⟩:=acc.lvl.from_ j _ hj oM (Int.le_refl _);rw[List.mem_singleton.1 k1] at k2 k3;rw[if_pos k2];subst k2;omega
theorem Vf0 {d:Dk} {n:No} (hd:RightK d) (hn:Qa0 n=0) (hE:Q2d d n=0) (hw:d.waits=[]) (hr:Qb5 d.seen n=true):(Q55 d n).waits=[]:=by
 obtain⟨xs,acc⟩:=Vfi hd (Ve3 hd) hn hE (fun m hm=>by simp at hm);rw[List.nil_append] at acc;rw[List.eq_nil_iff_forall_not_mem];intro y hy;have e:y=n:=by
  have:=acc.pool y;rw[hw] at this;rcases this.1 (.inr hy) with h|⟨h,_⟩
  ·cases h
  ·exact List.mem_singleton.1 h
 subst e;have h5:y.site.toNat<5:=by have:=(checkN_right.1 hn).site;omega
 obtain⟨_,w2,_,w4⟩:=acc.right.waits y hy;obtain⟨r1,r2⟩:=readyB_iff.1 hr;have:Qb5 (Q55 d y).seen y=true:=readyB_iff.2 ⟨fun j hj=>Int.le_trans (r1 j hj) (acc.lvl.up j hj),by have:=acc.lvl.up _ h5;omega⟩;rw[w4] at this;cases this
def Vfr (l:List No):List Int:=[(Vea l 0:Int),(Vea l 1:Int),(Vea l 2:Int),(Vea l 3:Int),(Vea l 4:Int)]
theorem Vfd {l:List No} {j:Nat} (h:j<5):atI (Vfr l) j=(Vea l (j:Int):Int):=by
 match j,h with
 |0,_=>rfl
 |1,_=>rfl
 |2,_=>rfl
 |3,_=>rfl
 |4,_=>rfl
theorem Vgh {L:List No} {k:Nat} {n:No} {e x:Dk} (hL:Vd7 L=0) (hs:n.site≠4) (hk:L[k]?=some n) (he:RightK e) (h4:e.site=4) (hw:e.waits=[]) (hq:e.seen=Vfr (L.take k))
  (hcov:Qgh e.seen n.needs=true) (h0:Q3r e n=0) (hx:Van e n=x):RightK x∧x.site=4∧x.waits=[]∧x.seen=Vfr (L.take (k+1))∧Qfc e.state n.deeds=some x.state:=by
 obtain⟨_,hn,hE,hv⟩:=Vhf h0;have hnum:=((checkLog_ok.1 hL).2 k n hk).2;have hN:=(checkN_right.1 hn).site;obtain⟨s,hss⟩:∃s:Nat,n.site=(s:Int):=⟨n.site.toNat,oM⟩;have hs5:s<5:=oM;have hsn:n.site.toNat=s:=oM;have hat:atI e.seen n.site.toNat=n.number-1:=by rw[hsn,hq,Vfd hs5,hnum,hss];omega
 have hr:Qb5 e.seen n=true:=readyB_iff.2 ⟨Qze.1 hcov,hat⟩;have ho:Qva e n=false:=oldK_false.2 ⟨by rw[h4];exact hs,oM,by rw[hw];rfl⟩;have hw':=Vf0 he hn hE hw hr;obtain⟨g1,g2,_,g3,g4⟩:=Vgi he hn hE ho hw hw';rw[←hx,hv];refine⟨g3,g4.trans h4,hw',?_,g1⟩;rw[g2,hsn];refine Vf6 (by rw[Qw7,hq];rfl) rfl fun j hj=> ?_
 rw[Q1j (by rw[hq];exact hs5),hq,Vfd hj,Vfd hj,Ve7 hk,hss];by_cases e2:s=j
 ·subst e2;rw[if_pos rfl,if_pos rfl];omega
 ·rw[if_neg e2,if_neg oM];omega
def Vex (L:List No) (i:Nat):Bool:=match L[i]? with|some n=>Qgh (Vfr (L.take i)) n.needs|none=>true
theorem Vem {L:List No} (hL:Vd7 L=0) (hs:∀n∈L,n.site≠4):∀{k:Nat} {e:Dk},k≤L.length→Vd8 (Vam 4) (L.take k)=some e→(∀i,i<k→Vex L i=true)→
  RightK e∧e.site=4∧e.waits=[]∧e.seen=Vfr (L.take k)∧Qfc ([],[]) ((L.take k).flatMap (·.deeds))=some e.state
 |0,e,_,h,_=>by
  rw[List.take_zero] at h;have:Vam 4=e:=Option.some.inj h;subst this;exact⟨Vfm dC dC,rfl,rfl,rfl,rfl⟩
 |k+1,e,hk,h,hc=>by
  have hk':k<L.length:=hk;have hx:L[k]?=some L[k]:=List.getElem?_eq_getElem hk';rw[Vfh hx] at h;cases he:Vd8 (Vam 4) (L.take k) with
  |none=>rw[he] at h;cases h
  |some e0=>
   rw[he] at h;obtain⟨i1,i2,i3,i4,i5⟩:=Vem hL hs oM he (fun i hi=>hc i oM);simp only[Option.bind_some] at h;by_cases h0:Q3r e0 L[k]=0
   ·rw[if_pos h0] at h;have hcv:=hc k oM;unfold Vex at hcv;rw[hx] at hcv;simp only at hcv;obtain⟨g1,g2,g3,g4,g5⟩:=Vgh hL (hs _ (List.getElem_mem hk')) hx i1 i2 i3 i4 (by rw[i4];exact hcv) h0 (Option.some.inj h);refine⟨g1,g2,g3,g4,?_⟩;rw[List.take_succ_eq_append_getElem hk',List.flatMap_append,Qr0,i5]
    show Qfc e0.state ([L[k]].flatMap _)=_
    rw[List.flatMap_cons,List.flatMap_nil,List.append_nil];exact g5
   ·rw[if_neg h0] at h;cases h
end Go.Proofs.YtgnccjojfebkeaaGreat
