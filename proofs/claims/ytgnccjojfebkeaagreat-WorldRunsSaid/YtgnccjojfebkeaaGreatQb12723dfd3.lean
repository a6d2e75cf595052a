/- A note of one's own: nothing of it is shared. -/
import Derived.Test.YtgnccjojfebkeaaGreatQa70fadfe36
import Derived.Test.YtgnccjojfebkeaaGreatQ24d212c46b
import Derived.Test.YtgnccjojfebkeaaGreatQ463d8804a1
import Derived.Deep.RegionLaw
import Derived.Deep.Cut
import Derived.Deep.CutRange
import Derived.Test.YtgnccjojfebkeaaGreatQed8dd0ae12
import Derived.Test.YtgnccjojfebkeaaGreatQb497ca1fba
import Derived.Test.YtgnccjojfebkeaaGreatQ453a98ae2d
set_option linter.unusedVariables false
set_option linter.unusedSimpArgs false
set_option maxRecDepth 100000
set_option maxHeartbeats 4000000
namespace Go.Proofs.YtgnccjojfebkeaaGreat
open Go Go.RowKit Go.BigFrame Cp
theorem Q6a:(Tryz.prog.info? 136).map (fun i=>(i.zero,i.size,i.bytes))=some (some (.agg #[.int .i64 0,.slice none 0 0,.int .i64 0,.string ⟨#[]⟩,.slice none 0 0,.int .i64 0,.int .i64 0]),7,96):=kR
theorem Q93:∀F w cs (y:De),RDe F w cs y→∀u∈cs,u.oneCell'=true:=by
 rintro F w cs y ⟨v,s,u,rfl,_,h1,_,h3,h4,_,_⟩ x hx;obtain⟨a1,n1,c1,rfl⟩:=h1.slice;obtain⟨a2,n2,c2,rfl⟩:=h4.slice;obtain⟨rfl,_⟩:=h3;simp at hx;rcases hx with rfl|rfl|rfl|rfl|rfl|rfl|rfl<;>rfl
theorem Q9e {a:Nat} (h:a≤1000):a+1≤maxLen:=Nat.le_trans (by omega:a+1≤1001) (by unfold maxLen;decide)
theorem Q9d {a:Nat} (h:a≤1000):(a+1) * 96≤140737488355328:=oM
theorem Qaw {T G:Prop} (h:T) (k:T→G):G:=k h
theorem Q1o {W:World} {k i b o:Nat} {v x:Value} (hne:k≠b) (h:W.cell? ⟨b,o,none⟩=some x):(W.setCell ⟨k,i,none⟩ v).cell? ⟨b,o,none⟩=some x:=
 (World.cell?_setCell_other W _ _ _ (fun e=>hne (by injection e))).trans h
theorem Q3p {w:World} {b:Nat} {x0 x1 x2 x3 x4 x5 x6:Value} (h0:w.cell? ⟨b,0,none⟩=some x0) (h1:w.cell? ⟨b,1,none⟩=some x1) (h2:w.cell? ⟨b,2,none⟩=some x2) (h3:w.cell? ⟨b,3,none⟩=some x3)
  (h4:w.cell? ⟨b,4,none⟩=some x4) (h5:w.cell? ⟨b,5,none⟩=some x5) (h6:w.cell? ⟨b,6,none⟩=some x6):w.rangeAt b 0 [x0,x1,x2,x3,x4,x5,x6]:=by
 intro j v hv
 match j,hv with
 |0,hv=>injection hv with hv;subst hv;exact h0
 |1,hv=>injection hv with hv;subst hv;exact h1
 |2,hv=>injection hv with hv;subst hv;exact h2
 |3,hv=>injection hv with hv;subst hv;exact h3
 |4,hv=>injection hv with hv;subst hv;exact h4
 |5,hv=>injection hv with hv;subst hv;exact h5
 |6,hv=>injection hv with hv;subst hv;exact h6
 |j+7,hv=>simp at hv
theorem Q9v {B b:Nat} {v:Value} (hv:∀k,v.ownBlock=some k→B≤k) (hb:b<B) (h:B≤b∨some b=v.ownBlock):False:=by
 rcases h with h|h
 ·omega
 ·have:=hv b h.symm;omega
theorem Qmi {α:Type} {l:List α} {k:Nat} {a:α} (h:l[k]?=some a):l.take (k+1)=l.take k++[a]:=by
 obtain⟨h1,h2⟩:=List.getElem?_eq_some_iff.1 h;rw[List.take_succ_eq_append_getElem h1,h2]
theorem Q1m {F:Nat→Prop} {w:World} {v:Value} {p:List Stp} {c x:Int} (h:RMk F w [v,.int .i64 x] (p,c)):RSl Qdt 2 F w v p:=by
 obtain⟨u,e,h1,_⟩:=h;injection e with e1 _
 subst e1;exact h1
def Vd0 (B ob:Nat) (st nu:Int) (v u:Value) (l:List Int) (wc:World):Prop:=
 wc.cell? ⟨ob,0,none⟩=some (.int .i64 st)∧wc.cell? ⟨ob,1,none⟩=some (.int .i64 nu)∧wc.cell? ⟨ob,2,none⟩=some v∧wc.cell? ⟨ob,3,none⟩=some (.slice none 0 0)∧(∀o,o<4→wc.frozen? ⟨ob,o,none⟩=false)∧
 B+1<ob∧ob<wc.heap.size∧wc.cell? ⟨B,3,none⟩=some u∧(∀o,o<4→wc.frozen? ⟨B+1,o,none⟩=false)∧
 wc.cell? ⟨B+1,0,none⟩=some (.int .i64 0)∧wc.cell? ⟨B+1,1,none⟩=some (.int .i64 0)∧wc.cell? ⟨B+1,2,none⟩=some (.slice none 0 0)∧wc.cell? ⟨B+1,3,none⟩=some (.slice none 0 0)∧
 RSl Qe1 1 (fun j=>B+1<j∧j≠ob) wc v l
def Vco (n:No) (w:World) (e:Ending) (w':World):Prop:=∃cs,e= .returned (.agg cs.toArray)∧RNo (fun k=>w.heap.size≤k) w' cs n∧Ext w w'
theorem Qo3 {F:Nat→Prop} {w:World} {cs:List Value} {n:No} (h:RNo F w cs n) (hn:n.needs.length≤1000) (hd:n.deeds.length≤1000) (hp:∀d∈n.deeds,d.run.1.1.length≤8000000000000∧d.mark.1.length≤8000000000000):
  Calls Tryz.prog 158 #[.agg cs.toArray] w (Vco n w):=by
 obtain⟨v,u,rfl,i1,i2,h1,h2⟩:=h;obtain⟨st,nu,l,q⟩:=n;simp only at i1 i2 h1 h2 hn hd hp;have HI1:=hH i1;have HI2:=hH i2;have HP:=hH hp;have HCL:=hH (fun(W:World) (hx:Ext w W)=>Qhr (h1.ext Qd6 hx) oM);have HL:=hH (fun(W:World) (hx:Ext w W)=>h2.ext gDe hx);obtain⟨a0,n0,c0,rfl⟩:=h1.slice;obtain⟨a1,n1,c1,rfl⟩:=h2.slice;obtain rfl:n1=q.length:=h2.len.1;obtain⟨j0,hj0,hz0,hz1',hz2⟩:=info_parts Q6a;have HJ:=hH hj0;have HZ0:=hH hz0;have HZ1:=hH hz1';have HZ2:=hH hz2;clear h1 h2 hp hj0 hz0 hz1' hz2 i1 i2;go_enter Tryz.func158,Tryz.ntmps158;go_wp2_with fail
 go_cut [3] from 6 (fun s wc=>∃(ob:Nat) (a2:Option Addr) (n2 c2:Nat),s= .pointer (some ⟨ob,0,none⟩)∧Hid (Vd0 w.heap.size ob st nu (.slice a2 n2 c2) (.slice a1 q.length c1) l wc)∧Hid (Ext w wc))
 case first=>
  go_region_held3 (fun W=>W.cell? ⟨w.heap.size,0,none⟩=some (.int .i64 st)∧W.cell? ⟨w.heap.size,1,none⟩=some (.int .i64 nu)∧W.cell? ⟨w.heap.size,2,none⟩=some (.slice a0 n0 c0))
   (first|(refine⟨?_,?_,?_⟩<;>(with_reducible assumption))|(refine⟨?_,?_,?_⟩<;>(repeat(with_reducible refine Q1o oM ?_))<;>(with_reducible assumption))|go_keep|(refine⟨?_,?_,?_⟩<;>(rw[hx1.cells _ _ ltA];first|(with_reducible assumption)|go_simp)))
   (first|(go_at_call 109;go_must ((with_reducible refine(HCL.o _ Qac).mono ?_);rintro e w1 ⟨v1,rfl,hv1,hx1⟩;obtain⟨a2,n2,c2,rfl⟩:=Qab hv1;have HV1:=hH hv1;have hz1:=hx1.size;(try simp at hz1);obtain⟨hb1,hb2⟩:=zL2 hx1 w.heap.size;obtain⟨q0,q1,q2,q3⟩:=cC4 hx1 (w.heap.size) (.int .i64 st) (.int .i64 nu) (.slice a0 n0 c0) (.slice a1 q.length c1);(try(refine Qaw (T:=w1.cell? ⟨w.heap.size+1,0,none⟩=some (.int .i64 0)) ?_ (fun r0=> ?_);(focus(refine Eq.trans (hx1.cells (w.heap.size+1) 0 ?_) ?_;(focus((first|omega|(simp<;>omega));done));(first|(with_reducible assumption)|go_simp);done))));(try(refine Qaw (T:=w1.cell? ⟨w.heap.size+1,1,none⟩=some (.int .i64 0)) ?_ (fun r1=> ?_);(focus(refine Eq.trans (hx1.cells (w.heap.size+1) 1 ?_) ?_;(focus((first|omega|(simp<;>omega));done));(first|(with_reducible assumption)|go_simp);done))));(try(refine Qaw (T:=w1.cell? ⟨w.heap.size+1,2,none⟩=some (.slice none 0 0)) ?_ (fun r2=> ?_);(focus(refine Eq.trans (hx1.cells (w.heap.size+1) 2 ?_) ?_;(focus((first|omega|(simp<;>omega));done));(first|(with_reducible assumption)|go_simp);done))));(try(refine Qaw (T:=w1.cell? ⟨w.heap.size+1,3,none⟩=some (.slice none 0 0)) ?_ (fun r3=> ?_);(focus(refine Eq.trans (hx1.cells (w.heap.size+1) 3 ?_) ?_;(focus((first|omega|(simp<;>omega));done));(first|(with_reducible assumption)|go_simp);done))));(try(refine Qaw (T:=w1.frozen? ⟨w.heap.size+1,0,none⟩=false) ?_ (fun rf0=> ?_);(focus(refine Eq.trans (hx1.frz (w.heap.size+1) 0 ?_) ?_;(focus((first|omega|(simp<;>omega));done));(first|(with_reducible assumption)|go_simp);done))));(try(refine Qaw (T:=w1.frozen? ⟨w.heap.size+1,1,none⟩=false) ?_ (fun rf1=> ?_);(focus(refine Eq.trans (hx1.frz (w.heap.size+1) 1 ?_) ?_;(focus((first|omega|(simp<;>omega));done));(first|(with_reducible assumption)|go_simp);done))));(try(refine Qaw (T:=w1.frozen? ⟨w.heap.size+1,2,none⟩=false) ?_ (fun rf2=> ?_);(focus(refine Eq.trans (hx1.frz (w.heap.size+1) 2 ?_) ?_;(focus((first|omega|(simp<;>omega));done));(first|(with_reducible assumption)|go_simp);done))));(try(refine Qaw (T:=w1.frozen? ⟨w.heap.size+1,3,none⟩=false) ?_ (fun rf3=> ?_);(focus(refine Eq.trans (hx1.frz (w.heap.size+1) 3 ?_) ?_;(focus((first|omega|(simp<;>omega));done));(first|(with_reducible assumption)|go_simp);done))));(try(refine Qaw (T:=w.heap.size+1<w1.heap.size) ?_ (fun rl=> ?_);(focus(omega))));(try(refine Qaw (T:=w1.cell? ⟨w.heap.size+1+1,0,none⟩=some (.int .i64 0)) ?_ (fun s0=> ?_);(focus(refine Eq.trans (hx1.cells (w.heap.size+1+1) 0 ?_) ?_;(focus((first|omega|(simp<;>omega));done));(first|(with_reducible assumption)|go_simp);done))));(try(refine Qaw (T:=w1.cell? ⟨w.heap.size+1+1,1,none⟩=some (.int .i64 0)) ?_ (fun s1=> ?_);(focus(refine Eq.trans (hx1.cells (w.heap.size+1+1) 1 ?_) ?_;(focus((first|omega|(simp<;>omega));done));(first|(with_reducible assumption)|go_simp);done))));(try(refine Qaw (T:=w1.cell? ⟨w.heap.size+1+1,2,none⟩=some (.slice none 0 0)) ?_ (fun s2=> ?_);(focus(refine Eq.trans (hx1.cells (w.heap.size+1+1) 2 ?_) ?_;(focus((first|omega|(simp<;>omega));done));(first|(with_reducible assumption)|go_simp);done))));(try(refine Qaw (T:=w1.cell? ⟨w.heap.size+1+1,3,none⟩=some (.slice none 0 0)) ?_ (fun s3=> ?_);(focus(refine Eq.trans (hx1.cells (w.heap.size+1+1) 3 ?_) ?_;(focus((first|omega|(simp<;>omega));done));(first|(with_reducible assumption)|go_simp);done))));(try(refine Qaw (T:=w1.frozen? ⟨w.heap.size+1+1,0,none⟩=false) ?_ (fun sf0=> ?_);(focus(refine Eq.trans (hx1.frz (w.heap.size+1+1) 0 ?_) ?_;(focus((first|omega|(simp<;>omega));done));(first|(with_reducible assumption)|go_simp);done))));(try(refine Qaw (T:=w1.frozen? ⟨w.heap.size+1+1,1,none⟩=false) ?_ (fun sf1=> ?_);(focus(refine Eq.trans (hx1.frz (w.heap.size+1+1) 1 ?_) ?_;(focus((first|omega|(simp<;>omega));done));(first|(with_reducible assumption)|go_simp);done))));(try(refine Qaw (T:=w1.frozen? ⟨w.heap.size+1+1,2,none⟩=false) ?_ (fun sf2=> ?_);(focus(refine Eq.trans (hx1.frz (w.heap.size+1+1) 2 ?_) ?_;(focus((first|omega|(simp<;>omega));done));(first|(with_reducible assumption)|go_simp);done))));(try(refine Qaw (T:=w1.frozen? ⟨w.heap.size+1+1,3,none⟩=false) ?_ (fun sf3=> ?_);(focus(refine Eq.trans (hx1.frz (w.heap.size+1+1) 3 ?_) ?_;(focus((first|omega|(simp<;>omega));done));(first|(with_reducible assumption)|go_simp);done))));(try(refine Qaw (T:=w.heap.size+1+1<w1.heap.size) ?_ (fun sl=> ?_);(focus(omega))));clear hv1)))
  all_goals (go_wp2_with fail;go_meet)
  all_goals
   refine⟨_,a2,n2,c2,rfl,hH ⟨asG,asG,asG,asG,(fun o ho=>by match o,ho with|0,_=>(first|(with_reducible assumption)|go_simp)|1,_=>(first|(with_reducible assumption)|go_simp)|2,_=>(first|(with_reducible assumption)|go_simp)|3,_=>(first|(with_reducible assumption)|go_simp)|_+4,h=>omega),ltA,ltA,asG,(fun o ho=>by match o,ho with|0,_=>(first|(with_reducible assumption)|go_simp)|1,_=>(first|(with_reducible assumption)|go_simp)|2,_=>(first|(with_reducible assumption)|go_simp)|3,_=>(first|(with_reducible assumption)|go_simp)|_+4,h=>omega),asG,asG,asG,asG,?_⟩,hH Qac⟩;refine RSl.keep Qd6 (by repeat(first|(with_reducible exact Qag)|(with_reducible refine Qbh ?_)|(with_reducible refine Qa1 ?_ _)|(with_reducible refine Qae ?_ (fun _ h=>absurd rfl h.2) _))) (RSl.more Qd6 (fun k hk hlt=> ?_) (Q6w HV1.o));simp at hk;exact⟨oM,oM⟩
 case rest=>
  obtain⟨ob,a2,n2,c2,rfl,HM1,HX1⟩:=hcut;have hm1:=HM1.o;obtain⟨m1,m2,m3,m4,m5,m6,m7,m8,m9,p1,p2,p3,p4,hv⟩:=hm1;have f3:=m5 3 oM;have HV2:=hH hv;have HOB:=hH (show(∀o,o<4→wc.frozen? ⟨ob,o,none⟩=false) from m5);have hob1:¬ob=w.heap.size:=oM;have hob2:¬ob=w.heap.size+1:=oM;clear m5 hv HM1;go_wp2_with fail
  refine Qad (fun wb ewb=> ?_);obtain⟨b0,b1,b2,b3⟩:=rR4 ewb ob (.int .i64 st) (.int .i64 nu) (.slice a2 n2 c2) (.slice none 0 0);have bf:wb.frozen? ⟨ob,3,none⟩=false:=by rw[ewb];go_simp
  have HXC:=hH (xE wc ewb);have HXB:=hH (ext_trans HX1.o HXC.o);have hbs:wc.heap.size≤wb.heap.size:=HXC.o.size;have hob:ob<wb.heap.size:=oM;clear ewb;have HKB:=hH (show Keeps (fun j=>j<wb.heap.size∧j≠ob) wb wb from Qag);go_loopw [17] (fun iv wr=>∃(k:Nat) (a5:Option Addr) (n5 c5:Nat),k≤q.length∧iv= .int .i64 k∧wr.cell? ⟨ob,3,none⟩=some (.slice a5 n5 c5)∧wr.frozen? ⟨ob,3,none⟩=false∧wr.cell? ⟨ob,0,none⟩=some (.int .i64 st)∧wr.cell? ⟨ob,1,none⟩=some (.int .i64 nu)∧wr.cell? ⟨ob,2,none⟩=some (.slice a2 n2 c2)∧
   Hid (OSl RDe 7 136 wb.heap.size (fun j=>wb.heap.size≤j) wr (.slice a5 n5 c5) (q.take k))∧Hid (Keeps (fun j=>j<wb.heap.size∧j≠ob) wb wr)∧Hid (Ext w wr)) (fun iv _=>q.length-(intOf iv).toNat)
  case atStart=>exact⟨0,none,0,0,Nat.zero_le _,rfl,b3,bf,b0,b1,b2,hH Qbn,HKB,HXB⟩
  case round=>
   obtain⟨k,a5,n5,c5,hk,rfl,x3,xf,x0,x1,x2,HO,HK,HX⟩:=hrel;have hzr:=HK.o.size;have HOL:=hH (Qak HO.o);obtain rfl:n5=(q.take k).length:=(Qa2 HO.o).1;clear b0 b1 b2 b3 bf m1 m2 m3 m4;by_cases hlt:k<q.length
   ·obtain⟨b,o,d,b1',m1,e1,b2',m2,e2,sx,rfl,hb,ek,hde,u0,u1,u2,u3,u4,u5,u6⟩:=Qfd (HL.o wr HX.o) hlt;have hpd:=HP.o d (List.mem_of_getElem? ek);have HDE:=hH hde;have HEK:=hH (Qmi ek);have hfl:(q.take k).length≤1000:=by rw[List.length_take];omega
    obtain⟨q1,q2,q3,he,hk0,g1,g2,g3,g4,g5,g6⟩:=hde;injection he with he0 he
    injection he with he1 he
    injection he with he2 he
    injection he with he3 he
    injection he with he4 he
    subst he1;subst he3;subst he4;have HO1:=hH (fun(W:World) (hx:Ext wr W)=>Qmb (Qam (g4.ext Qap hx) g5) hpd.2);have HO2:=hH (fun(W:World) (hx:Ext wr W)=>Qmb (Qam (g1.ext Qap hx) g2) hpd.1);have HDI:=hH (fun(F:Nat→Prop) (W:World) (v u:Value) (hv:RSl Qdt 2 F W v d.run.1.1) (hu:RSl Qdt 2 F W u d.mark.1)=>(show RDe F W [.int .i64 d.kind,v,.int .i64 d.run.1.2,.string sx,u,.int .i64 d.mark.2,.int .i64 d.many] d from⟨v,_,u,rfl,hk0,hv,g2,g3,hu,g5,g6⟩));have hbr:b<wr.heap.size:=hb;generalize d.run.1.1=rp at *;generalize d.mark.1=mp at *;generalize d.kind=dk at *;generalize d.run.1.2=rc at *;generalize d.mark.2=mc at *;generalize d.many=dn at *;clear ek he he0 he2 g1 g2 g3 g4 g5 g6 hk0 hpd HDE;go_wp2_with fail
    refine Qad (fun W2 eW2=> ?_);obtain⟨y0,y1,y2,y3,y4,y5,y6⟩:=rR7 eW2 wr.heap.size (.int .i64 dk) (.slice b1' m1 e1) (.int .i64 rc) (.string sx) (.slice b2' m2 e2) (.int .i64 mc) (.int .i64 dn);have yf1:W2.frozen? ⟨wr.heap.size,1,none⟩=false:=by rw[eW2];go_simp
    have yf2:W2.frozen? ⟨wr.heap.size,2,none⟩=false:=by rw[eW2];go_simp
    have yf4:W2.frozen? ⟨wr.heap.size,4,none⟩=false:=by rw[eW2];go_simp
    have yf5:W2.frozen? ⟨wr.heap.size,5,none⟩=false:=by rw[eW2];go_simp
    have hw2:=xE wr eW2;have hr2:wr.heap.size<W2.heap.size:=World.block_lt_of_cell? _ _ y0;clear eW2 u0 u1 u2 u3 u4 u5 u6;go_cut [] from 21 to 30 (fun wx=>∃(a3:Option Addr) (n3 c3:Nat) (a4:Option Addr) (n4 c4:Nat),wx.cell? ⟨wr.heap.size,0,none⟩=some (.int .i64 dk)∧wx.cell? ⟨wr.heap.size,1,none⟩=some (.slice a4 n4 c4)∧wx.cell? ⟨wr.heap.size,2,none⟩=some (.int .i64 rc)∧wx.cell? ⟨wr.heap.size,3,none⟩=some (.string sx)∧wx.cell? ⟨wr.heap.size,4,none⟩=some (.slice a3 n3 c3)∧wx.cell? ⟨wr.heap.size,5,none⟩=some (.int .i64 mc)∧wx.cell? ⟨wr.heap.size,6,none⟩=some (.int .i64 dn)∧
     Hid (RSl Qdt 2 (fun j=>wr.heap.size<j) wx (.slice a3 n3 c3) mp)∧Hid (RSl Qdt 2 (fun j=>wr.heap.size<j) wx (.slice a4 n4 c4) rp)∧Hid (Ext wr wx)∧wr.heap.size<wx.heap.size)
    case first=>
     go_region_law (first
      |(go_simp;go_at_call 194;((with_reducible refine(HO1.o _ (ext_trans hw2 Qac)).mono ?_);rintro e w3 ⟨cs3,rfl,hm3,hx3⟩;have HM3:=hH (Qem hm3);obtain⟨v3,rfl,hv3,_⟩:=hm3;obtain⟨a3,n3,c3,rfl⟩:=Qab hv3;clear hv3;have hz3:=hx3.size;(try simp at hz3);have hb3:=zL hx3 wr.heap.size;obtain⟨y0,y1,y2,y3,y4,y5,y6⟩:=cC7 hx3 (wr.heap.size) (.int .i64 dk) (.slice b1' m1 e1) (.int .i64 rc) (.string sx) (.slice b2' m2 e2) (.int .i64 mc) (.int .i64 dn);have yf1:=fL hx3 (wr.heap.size) (1);have yf2:=fL hx3 (wr.heap.size) (2);have yf4:=fL hx3 (wr.heap.size) (4);have yf5:=fL hx3 (wr.heap.size) (5);have HX3:=hH (show Ext wr w3 from ext_trans (ext_trans hw2 Qac) hx3)))
      |(go_simp;go_at_call 194;go_must ((with_reducible refine(HO2.o _ (ext_trans HX3.o Qac)).mono ?_);rintro e w4 ⟨cs4,rfl,hm4,hx4⟩;have HM4:=hH (Qem hm4);obtain⟨v4,rfl,hv4,_⟩:=hm4;obtain⟨a4,n4,c4,rfl⟩:=Qab hv4;clear hv4;have hz4:=hx4.size;(try simp at hz4);have hb4:=zL hx4 wr.heap.size;obtain⟨z0,z1,z2,z3,z4,z5,z6⟩:=cC7 hx4 (wr.heap.size) (.int .i64 dk) (.slice b1' m1 e1) (.int .i64 rc) (.string sx) (.slice b2' m2 e2) (.int .i64 mc) (.int .i64 dn);have zf1:=fL hx4 (wr.heap.size) (1);have zf2:=fL hx4 (wr.heap.size) (2);have zf4:=fL hx4 (wr.heap.size) (4);have zf5:=fL hx4 (wr.heap.size) (5);have HX4:=xX HX3 hx4)))
     all_goals (go_wp2_with fail;go_meet)
     all_goals
      refine⟨a3,n3,c3,a4,n4,c4,asG,asG,asG,asG,asG,asG,asG,hH ?_,hH ?_,hH Qac,ltA⟩
      ·refine RSl.keep Qap (by repeat(first|(with_reducible exact Qag)|(with_reducible refine Qbh ?_)|(with_reducible refine Qa1 ?_ _)|(refine Qae ?_ (by intro _ h;exact Nat.lt_irrefl _ h) _))) (RSl.ext Qap (RSl.more Qap (fun k hk _=> ?_) (Q1m HM3.o)) (show Ext w3 w4 from ext_trans Qac hx4));have hk':=hk
       (try simp at hk')
       omega
      ·refine RSl.keep Qap (by repeat(first|(with_reducible exact Qag)|(with_reducible refine Qbh ?_)|(with_reducible refine Qa1 ?_ _)|(refine Qae ?_ (by intro _ h;exact Nat.lt_irrefl _ h) _))) (RSl.more Qap (fun k hk _=> ?_) (Q1m HM4.o));have hk':=hk
       (try simp at hk')
       omega
    case rest=>
     obtain⟨a3,n3,c3,a4,n4,c4,y0,y1,y2,y3,y4,y5,y6,HA3,HA4,HXX,hrx⟩:=hcut;have hzx:=HXX.o.size;have hobr:ob<wr.heap.size:=oM;obtain⟨o0,o1,o2,o3⟩:=tT4 HXX.o hobr x0 x1 x2 x3;have of:=(HXX.o.frz ob 3 hobr).trans xf;have hobx:ob<wc.heap.size:=oM;generalize q.take k=fl at *;clear x0 x1 x2 x3 xf HO1 HO2;go_wp2_with (at_builtin;go_must (refine Qaj gDe rfl (.tmp 32) (.tmp 34) 46 rfl wb.heap.size 136 j0 _ 7 96 Tryz.underlying46 HJ.o HZ0.o HZ1.o HZ2.o rfl oM (F:=fun j=>wb.heap.size≤j) (G:=fun j=>wr.heap.size<j) (.slice a5 fl.length c5) fl rfl (Qai gDe HO.o (ext_trans HXX.o Qac)) (.slice (some ⟨wc.heap.size,0,none⟩) 1 1) [d] rfl (Qlh rfl (Q3p asG asG asG asG asG asG asG) (HDI.o _ _ _ _ (HA4.o.ext Qap Qac) (HA3.o.ext Qap Qac)) hrx ltA (Nat.le_refl _) mO) Q93 (fun j hj _=>⟨Nat.le_trans hzr (Nat.le_of_lt hj),fun e=>by have:=(HOL.o j e.symm).2;have hj':wr.heap.size<j:=hj;omega⟩) (Q9e hfl) (Q9d hfl) ltA ?_;intro v9 w9 hown9 hg9 hat9;obtain⟨a9,n9,c9,rfl⟩:=Qab hown9;have hgb:=hg9.block ob ltA (fun e=>by have:=(HOL.o ob e.symm).1;omega);have s0:w9.cell? ⟨ob,0,none⟩=some (.int .i64 st):=(World.cell?_of_block (a:=⟨ob,0,none⟩) hgb).trans gS;have s1:w9.cell? ⟨ob,1,none⟩=some (.int .i64 nu):=(World.cell?_of_block (a:=⟨ob,1,none⟩) hgb).trans gS;have s2:w9.cell? ⟨ob,2,none⟩=some (.slice a2 n2 c2):=(World.cell?_of_block (a:=⟨ob,2,none⟩) hgb).trans gS;have s3:w9.cell? ⟨ob,3,none⟩=some (.slice a5 fl.length c5):=(World.cell?_of_block (a:=⟨ob,3,none⟩) hgb).trans gS;have sf:w9.frozen? ⟨ob,3,none⟩=false:=(World.frozen?_of_block (a:=⟨ob,3,none⟩) hgb).trans gS;have HL9:=hH (Qak hown9);have hl9:ob<w9.heap.size:=World.block_lt_of_cell? _ _ s0;have HX9:=hH (show Ext w w9 from Qao (ext_trans HX.o (ext_trans HXX.o Qac)) hg9 (fun j hj=>by have:=(HOL.o j hj).1;omega));have HK9:=hH (show Keeps (fun j=>j<wb.heap.size∧j≠ob) wb w9 from(HK.o.trans (Keeps.of_below (F:=fun j=>j<wb.heap.size∧j≠ob) (show Ext wr _ from ext_trans HXX.o Qac))).trans ⟨hg9.size,fun j hj hl=>hg9.block j hl (fun e=>by have:=(HOL.o j e.symm).1;have:=hj.1;omega)⟩);have HN9:=hH hown9;clear hgb hown9 hg9 hat9))
     go_roundw
     case rel=>exact⟨k+1,a9,n9,c9,oM,by go_num,gS,gS,gS,gS,gS,
      hH (by rw[HEK.o];exact Qa8 gDe HN9.o (Qae Qag (fun _ h=>Q9v (fun k hk=>(HL9.o k hk).1) hob h) _)),hH (Qae HK9.o (fun _ h=>h.2 rfl) _),hH (ext_set HX9.o (by show w.heap.size≤ob;omega) _)⟩
     case measure=>simp[intOf];omega
   ·obtain rfl:k=q.length:=oM;have HF:=hH (show OSl RDe 7 136 wb.heap.size (fun j=>wb.heap.size≤j) wr (.slice a5 (q.take q.length).length c5) q by have:=HO.o;rw[List.take_of_length_le (Nat.le_refl _)] at this ⊢;exact this);have k0:=World.cell?_of_block (a:=⟨w.heap.size+1,0,none⟩) (HK.o.block (w.heap.size+1) ⟨oM,oM⟩ oM);have k1:=World.cell?_of_block (a:=⟨w.heap.size+1,1,none⟩) (HK.o.block (w.heap.size+1) ⟨oM,oM⟩ oM);have k2:=World.cell?_of_block (a:=⟨w.heap.size+1,2,none⟩) (HK.o.block (w.heap.size+1) ⟨oM,oM⟩ oM);have k3:=World.cell?_of_block (a:=⟨w.heap.size+1,3,none⟩) (HK.o.block (w.heap.size+1) ⟨oM,oM⟩ oM);have hrc:w.heap.size+1<wc.heap.size:=oM;rw[(HXC.o.cells _ 0 hrc).trans p1] at k0;rw[(HXC.o.cells _ 1 hrc).trans p2] at k1;rw[(HXC.o.cells _ 2 hrc).trans p3] at k2;rw[(HXC.o.cells _ 3 hrc).trans p4] at k3;have kf:∀o,o<4→wr.frozen? ⟨w.heap.size+1,o,none⟩=false:=fun o ho=>(World.frozen?_of_block (a:=⟨w.heap.size+1,o,none⟩) (HK.o.block (w.heap.size+1) ⟨oM,oM⟩ oM)).trans ((HXC.o.frz _ o hrc).trans (m9 o ho))
    have kf0:=kf 0 oM;have kf1:=kf 1 oM;have kf2:=kf 2 oM;have kf3:=kf 3 oM;have hon:=HOL.o;have HV3:=hH (show RSl Qe1 1 (fun j=>w.heap.size+1<j) wr (.slice a2 n2 c2) l from RSl.more Qd6 (fun j hj _=>hj.1.1) (RSl.keep Qd6 (F:=fun j=>(w.heap.size+1<j∧j≠ob)∧j<wb.heap.size) (HK.o.weaken (fun j _ h=>⟨h.2,h.1.2⟩)) (RSl.more Qd6 (fun j hj hl=>⟨hj,hl⟩) (HV2.o.ext Qd6 HXC.o))));have hob3:ob<wr.heap.size:=oM;rw[List.take_of_length_le (Nat.le_refl _)] at x3 HF HOL;clear hon;go_wp2_with fail
    refine bodyPost_ret (v:= .agg #[.int .i64 st,.int .i64 nu,.slice a2 n2 c2,.slice a5 q.length c5]) (by simp[results,Tryz.results158,go_sem,k0,k1,k2,k3]) rfl ⟨[.int .i64 st,.int .i64 nu,.slice a2 n2 c2,.slice a5 q.length c5],rfl,⟨_,_,rfl,HI1.o,HI2.o,?_,?_⟩,?_⟩
    ·refine RSl.more Qd6 (fun j hj _=> ?_) (RSl.keep Qd6 (F:=fun j=>w.heap.size+1<j) (by repeat(first|(with_reducible exact Qag)|(with_reducible refine Qbh ?_)|(refine Qae ?_ (by intro _ h;first|exact Nat.lt_irrefl _ h|(have h':=h;simp at h';omega)) _))) HV3.o);have h':w.heap.size+1<j:=hj
     show w.heap.size≤j
     omega
    ·refine RSl.more gDe (fun j hj _=> ?_) (RSl.keep gDe (F:=fun j=>wb.heap.size≤j) (by repeat(first|(with_reducible exact Qag)|(with_reducible refine Qbh ?_)|(refine Qae ?_ (by intro _ h;first|exact Nat.lt_irrefl _ h|(have h':=h;simp at h';omega)) _))) (Qaz gDe HF.o (fun _ h _=>h) (fun _ h=>h)));have h':wb.heap.size≤j:=hj
     show w.heap.size≤j
     omega
    ·exact ext_set (ext_set (ext_set (ext_set HX.o (by show w.heap.size≤w.heap.size+1;omega) _) (by show w.heap.size≤w.heap.size+1;omega) _) (by show w.heap.size≤w.heap.size+1;omega) _) (by show w.heap.size≤w.heap.size+1;omega) _
theorem Qfg:(Tryz.prog.info? 48).map (fun i=>(i.zero,i.size,i.bytes))=some (some (.agg #[.int .i64 0,.int .i64 0,.slice none 0 0,.slice none 0 0]),4,64):=kR
theorem Qei:∀F w cs (y:No),RNo F w cs y→∀u∈cs,u.oneCell'=true:=by
 rintro F w cs y ⟨v,u,rfl,_,_,h1,h2⟩ x hx;obtain⟨a1,n1,c1,rfl⟩:=h1.slice;obtain⟨a2,n2,c2,rfl⟩:=h2.slice;simp at hx;rcases hx with rfl|rfl|rfl|rfl<;>rfl
theorem Ql7 {a:Nat} (h:a≤1000):a+1≤maxLen:=Nat.le_trans (by omega:a+1≤1001) (by unfold maxLen;decide)
theorem Qj1 {a:Nat} (h:a≤1000):(a+1) * 64≤140737488355328:=oM
theorem Qdj {F:Nat→Prop} {w:World} {a:Option Addr} {n cap:Nat} {q:List No} (h:RSl RNo 4 F w (.slice a n cap) q) {i:Nat} (hi:i<n):
  ∃b o d a1 n1 c1 a2 n2 c2,a=some ⟨b,o,none⟩∧b<w.heap.size∧q[i]?=some d∧RNo F w [.int .i64 d.site,.int .i64 d.number,.slice a1 n1 c1,.slice a2 n2 c2] d∧
   w.cell? ⟨b,o+i * 4,none⟩=some (.int .i64 d.site)∧w.cell? ⟨b,o+i * 4+1,none⟩=some (.int .i64 d.number)∧w.cell? ⟨b,o+i * 4+2,none⟩=some (.slice a1 n1 c1)∧w.cell? ⟨b,o+i * 4+3,none⟩=some (.slice a2 n2 c2):=by
 obtain⟨b,o,d,cs,e1,e2,e3,_,e4,hd⟩:=h.at_ hi;have hd':=hd;obtain⟨v,u,rfl,h1,h2,h3,h4⟩:=hd;obtain⟨a1,n1,c1,rfl⟩:=h3.slice;obtain⟨a2,n2,c2,rfl⟩:=h4.slice;exact⟨b,o,d,a1,n1,c1,a2,n2,c2,e1,e2,e3,hd',by simpa using e4 0 _ rfl,by simpa [Nat.add_assoc] using e4 1 _ rfl,by simpa [Nat.add_assoc] using e4 2 _ rfl,by simpa [Nat.add_assoc] using e4 3 _ rfl⟩
theorem Qq2 {m:Mk} (h:Qaf m=0):m.1.length≤8000000000000:=Nat.le_trans (checkM_ok.1 h).1 oM
theorem Qja {n:No} (h:Qa0 n=0):n.needs.length≤1000∧n.deeds.length≤1000∧∀d∈n.deeds,d.run.1.1.length≤8000000000000∧d.mark.1.length≤8000000000000:=by
 obtain⟨_,_,h3,_,_,_,h7,h8⟩:=Qyp h;refine⟨oM,oM,fun d hd=> ?_⟩;have hc:=checkDL_ok.1 h8 d hd;by_cases hk:d.kind=1
 ·obtain⟨h1,h2,_⟩:=Qge hc hk;refine⟨Qq2 (Qb1 h1).1,?_⟩;rw[Qxt h2];simp
 ·obtain⟨_,h2,_,h6,_⟩:=Qfx hc hk;refine⟨?_,Qq2 h2⟩;rw[Qxt h6];simp
theorem Qis {w:World} {b:Nat} {x0 x1 x2 x3:Value} (h0:w.cell? ⟨b,0,none⟩=some x0) (h1:w.cell? ⟨b,1,none⟩=some x1) (h2:w.cell? ⟨b,2,none⟩=some x2) (h3:w.cell? ⟨b,3,none⟩=some x3):w.rangeAt b 0 [x0,x1,x2,x3]:=by
 intro j v hv
 match j,hv with
 |0,hv=>injection hv with hv;subst hv;exact h0
 |1,hv=>injection hv with hv;subst hv;exact h1
 |2,hv=>injection hv with hv;subst hv;exact h2
 |3,hv=>injection hv with hv;subst hv;exact h3
 |j+4,hv=>simp at hv
def Vaz (l:List No) (w:World) (e:Ending) (w':World):Prop:=∃v,e= .returned v∧OSl RNo 4 48 w.heap.size (fun j=>w.heap.size≤j) w' v l∧Ext w w'
theorem Qld {F:Nat→Prop} {w:World} {v:Value} {l:List No} (h:RSl RNo 4 F w v l) (hl:l.length≤1000) (hn:∀n∈l,Qa0 n=0):
  Calls Tryz.prog 99 #[v] w (Vaz l w):=by
 have HN:=hH hn;have HL:=hH (fun(W:World) (hx:Ext w W)=>h.ext gNo hx);obtain⟨a0,n0,c0,rfl⟩:=h.slice;obtain rfl:n0=l.length:=h.len.1;obtain⟨i0,hi0,hz0,hz1',hz2⟩:=info_parts Qfg;have HJ:=hH hi0;have HZ0:=hH hz0;have HZ1:=hH hz1';have HZ2:=hH hz2;clear h hn hi0 hz0 hz1' hz2;go_enter Tryz.func99,Tryz.ntmps99;go_wp2_with fail
 go_loopw [3,8] (fun ov iv wr=>∃k:Nat,k≤l.length∧iv= .int .i64 k∧Hid (OSl RNo 4 48 w.heap.size (fun j=>w.heap.size≤j) wr ov (l.take k))∧Hid (Ext w wr)) (fun _ iv _=>l.length-(intOf iv).toNat)
 case atStart=>exact⟨0,Nat.zero_le _,rfl,hH Qbn,hH (ext_refl _)⟩
 case round=>
  obtain⟨k,hk,rfl,HO,HX⟩:=hrel;have hzr:=HX.o.size;have HOL:=hH (Qak HO.o);obtain⟨a5,n5,c5,rfl⟩:=Qab HO.o;obtain rfl:n5=(l.take k).length:=(Qa2 HO.o).1;by_cases hlt:k<l.length
  ·obtain⟨b,o,d,a1,n1,c1,a2,n2,c2,rfl,hb,ek,hd,y0,y1,y2,y3⟩:=Qdj (HL.o wr HX.o) hlt;obtain⟨s1,s2,s3⟩:=Qja (HN.o d (List.mem_of_getElem? ek));have HOW:=hH (fun(W:World) (hx:Ext wr W)=>Qo3 (gNo.ext hd hx) s1 s2 s3);have HEK:=hH (Qmi ek);have hfl:(l.take k).length≤1000:=by rw[List.length_take];omega
   have hbr:b<wr.heap.size:=hb;generalize l.take k=fl at *;clear ek hd s1 s2 s3;go_wp2_with (first|(go_at_call 158;go_must ((with_reducible refine(HOW.o _ Qac).mono ?_);rintro e w2 ⟨cs2,rfl,hn2,hx2⟩;have HN2:=hH hn2;obtain⟨v2,u2,rfl,_,_,hv2,hu2⟩:=hn2;obtain⟨a3,n3,c3,rfl⟩:=hv2.slice;obtain⟨a4,n4,c4,rfl⟩:=hu2.slice;clear hv2 hu2;have hz2:=hx2.size;(try simp at hz2);have hb2:=zL hx2 wr.heap.size;have HX2:=xY wr hx2))|(at_builtin;go_must (refine Qaj gNo rfl (.tmp 12) (.tmp 15) 23 rfl w.heap.size 48 i0 _ 4 64 Tryz.underlying23 HJ.o HZ0.o HZ1.o HZ2.o rfl oM (F:=fun j=>w.heap.size≤j) (G:=fun j=>wr.heap.size≤j) (.slice a5 fl.length c5) fl rfl (Qai gNo HO.o (ext_trans HX2.o Qac)) (.slice (some ⟨w2.heap.size,0,none⟩) 1 1) [d] rfl (Qlh rfl (Qis asG asG asG asG) (gNo.ext (gNo.more (fun j hj _=>(show wr.heap.size≤j by first|omega|(simp at hj;omega))) HN2.o) Qac) ltA ltA (Nat.le_refl _) mO) Qei (fun j hj _=>⟨Nat.le_trans hzr hj,fun e=>by have:=(HOL.o j e.symm).2;have hj':wr.heap.size≤j:=hj;omega⟩) (Ql7 hfl) (Qj1 hfl) ltA ?_;intro v9 w9 hown9 hg9 hat9;obtain⟨a9,n9,c9,rfl⟩:=Qab hown9;have HX9:=hH (show Ext w w9 from Qao (ext_trans HX.o (ext_trans HX2.o Qac)) hg9 (fun j hj=>(HOL.o j hj).1));clear hg9 hat9)))
   go_roundw
   case rel=>exact⟨k+1,oM,by go_num,hH (by rw[HEK.o];exact hown9),HX9⟩
   case measure=>simp[intOf];omega
  ·obtain rfl:k=l.length:=oM;have HF:=hH (show OSl RNo 4 48 w.heap.size (fun j=>w.heap.size≤j) wr (.slice a5 (l.take l.length).length c5) l by have:=HO.o;rw[List.take_of_length_le (Nat.le_refl _)] at this ⊢;exact this);go_wp2_with fail
   go_ret;exact⟨_,rfl,HF.o,HX.o⟩
theorem Qmh {l:List No} (h:Qdi l) (j:Nat) (a b:No) (i:Nat) (hij:i<j) (h1:l[i]?=some a) (h2:l[j]?=some b):Qdz a b= -1:=by
 obtain⟨g1,rfl⟩:=List.getElem?_eq_some_iff.1 h1;obtain⟨g2,rfl⟩:=List.getElem?_eq_some_iff.1 h2;exact List.pairwise_iff_getElem.1 h i j g1 g2 hij
theorem ordN_lt {a b:No}:Qdz a b<0↔Qdz a b= -1:=by have:=Qer a b;omega
theorem Q3d {a b m:No} (h:Qdz b m=0):Qdz a m=Qdz a b:=by
 obtain⟨h1,h2⟩:=ordN_zero.1 h;unfold Qdz;rw[h1,h2]
theorem Q3m {l:List No} {m:No} {n:Nat} (hn:n≤l.length) (h1:∀t a,l[t]?=some a→t<n→Qdz a m<0) (h2:∀t a,l[t]?=some a→n≤t→¬Qdz a m<0):Qg2 l m=n:=by
 unfold Qg2;rw[←List.take_append_drop n l,List.countP_append];have e1:(l.take n).countP (fun a=>decide (Qdz a m<0))=(l.take n).length:=by
  exact Zat
 have e2:(l.drop n).countP (fun a=>decide (Qdz a m<0))=0:=by
  exact Za4
 rw[e1,e2,List.length_take];omega
def Qhk (l:List No) (m:No) (i j:Nat):Prop:=i≤j∧j≤l.length∧(∀t a,l[t]?=some a→t<i→Qdz a m<0)∧∀t a,l[t]?=some a→j≤t→¬Qdz a m<0
theorem Qr3 (l:List No) (m:No):Qhk l m 0 l.length:=
 ⟨Nat.zero_le _,Nat.le_refl _,fun t a _ h=>by omega,fun t a h ht=>by rw[List.getElem?_eq_none ht] at h;cases h⟩
theorem Qv2 {l:List No} {m:No} {i j h:Nat} {a:No} (hs:Qdi l) (hh:Qhk l m i j) (h1:h<j) (e:l[h]?=some a) (ho:Qdz a m<0):Qhk l m (h+1) j:=by
 refine⟨oM,hh.2.1,fun t b hb ht=> ?_,hh.2.2.2⟩;by_cases h2:t=h
 ·subst h2;have:a=b:=by rw[e] at hb;simpa using hb
  subst this;exact ho
 ·exact ordN_lt.2 (Qg0 (Qmh hs h b a t oM hb e) (ordN_lt.1 ho))
theorem Qtu {l:List No} {m:No} {i j h:Nat} {a:No} (hs:Qdi l) (hh:Qhk l m i j) (h0:i≤h) (h1:h<j) (e:l[h]?=some a) (ho:¬Qdz a m<0):Qhk l m i h:=by
 refine⟨h0,by have:=hh.2.1;omega,hh.2.2.1,fun t b hb ht hlt=> ?_⟩;by_cases h2:t=h
 ·subst h2;have:a=b:=by rw[e] at hb;simpa using hb
  subst this;exact ho hlt
 ·exact ho (ordN_lt.2 (Qg0 (Qmh hs t a b h oM e hb) (ordN_lt.1 hlt)))
theorem Qoq {l:List No} {m:No} {i:Nat} (hh:Qhk l m i i):Qg2 l m=i:=Q3m hh.2.1 hh.2.2.1 hh.2.2.2
theorem Q59 {l:List No} {m:No} {i:Nat} (hh:Qhk l m i i) (h:l.length≤i):Qu8 l m=false:=by
 unfold Qu8;rw[List.any_eq_false];intro a ha;obtain⟨t,ht,e⟩:=List.mem_iff_getElem.1 ha;have:=hh.2.2.1 t a (by rw[List.getElem?_eq_getElem ht,e]) oM;simp;omega
theorem Q2l {l:List No} {m:No} {i:Nat} {a:No} (hs:Qdi l) (hh:Qhk l m i i) (e:l[i]?=some a):Qu8 l m=(Qdz a m==0):=by
 cases h:(Qdz a m==0) with
 |true=>
  unfold Qu8;rw[List.any_eq_true];exact⟨a,List.mem_of_getElem? e,by simpa using h⟩
 |false=>
  unfold Qu8;rw[List.any_eq_false];intro b hb;obtain⟨t,ht,e2⟩:=List.mem_iff_getElem.1 hb;have e3:l[t]?=some b:=by rw[List.getElem?_eq_getElem ht,e2]
  have h0:¬Qdz a m=0:=by simpa using h
  have h1:=hh.2.2.2 i a e (Nat.le_refl _);simp only[decide_eq_true_eq];intro hz;rcases Nat.lt_trichotomy t i with hlt|rfl|hgt
  ·have:=hh.2.2.1 t b e3 hlt;omega
  ·rw[e] at e3;have:a=b:=by simpa using e3
   subst this;exact h0 hz
  ·have k1:=Qmh hs t a b i hgt e e3;have k2:=Q3d (a:=a) hz;omega
theorem Qws {F G:Nat→Prop} {w:World} {v:Value} {ds:List Value} {l:List No} {m:No} (hl:RSl RNo 4 F w v l) (hm:RNo G w ds m) (hs:Qdi l) (hn:l.length≤1000000):
  Calls Tryz.prog 154 #[v,.agg ds.toArray,.func (.func 155) #[] #[]] w (Qlu (Qg2 l m) (Qu8 l m) w):=by
 obtain⟨a0,n0,c0,rfl⟩:=hl.slice;obtain⟨rfl,_,_⟩:=hl.len;have HMX:=hH (fun(W:World) (hx:Ext w W)=>gNo.ext hm hx);obtain⟨v2,v3,rfl,_,_,hm2,hm3⟩:=hm;obtain⟨a2,n2,c2,rfl⟩:=hm2.slice;obtain⟨a3,n3,c3,rfl⟩:=hm3.slice;have HL:=hH hl;have HS:=hH hs;clear hl hm2 hm3 hs;go_enter Tryz.func154,Tryz.ntmps154;go_wp2
 go_loopw [9,10] (fun iv jv wr=>∃i j:Nat,i≤j∧j≤l.length∧iv= .int .i64 i∧jv= .int .i64 j∧Hid (Qhk l m i j)∧Ext (w.alloc (.cells #[.int .i64 m.site,.int .i64 m.number,.slice a2 n2 c2,.slice a3 n3 c3] 48)) wr) (fun iv jv _=>(intOf jv).toNat-(intOf iv).toNat)
 case atStart=>exact⟨0,l.length,Nat.zero_le _,Nat.le_refl _,rfl,rfl,hH (Qr3 _ _),ext_refl _⟩
 case round=>
  obtain⟨i,j,hij,hjl,rfl,rfl,HH,hx⟩:=hrel;have hw:Ext w wr:=ext_trans (ext_alloc (ext_refl _) _) hx;have z1:wr.cell? ⟨w.heap.size,0,none⟩=some (.int .i64 m.site):=(hx.cells _ _ sO).trans gS;have z2:wr.cell? ⟨w.heap.size,1,none⟩=some (.int .i64 m.number):=(hx.cells _ _ sO).trans gS;have z3:wr.cell? ⟨w.heap.size,2,none⟩=some (.slice a2 n2 c2):=(hx.cells _ _ sO).trans gS;have z4:wr.cell? ⟨w.heap.size,3,none⟩=some (.slice a3 n3 c3):=(hx.cells _ _ sO).trans gS;have hsz:=hx.size
  (try simp at hsz)
  have hbz:w.heap.size<wr.heap.size:=oM;have HX:=hH hx;have HW:=hH hw;clear hx hw;by_cases hlt:i<j
  ·obtain⟨h,hh⟩:∃h:Nat,h=(i+j) / 2:=⟨_,rfl⟩;have hlo:i≤h:=oM;have hhi:h<j:=oM;have hhl:h<l.length:=oM;have hsh:(((i:Int)+(j:Int)) >>> 1)=(h:Int):=by rw[Int.shiftRight_eq_div_pow];omega
   have hsn:(i+j) >>> 1=h:=by rw[Nat.shiftRight_eq_div_pow];omega
   have hq2:((i:Int)+(j:Int)) / 2=(h:Int):=oM;have HHH:=hH hh;clear hh;obtain⟨b,o,p,ap,np,cp,aq,nq,cq,rfl,hb,ek,hpp,y0,y1,y2,y3⟩:=Qdj (HL.o.ext gNo HW.o) hhl;have HCM:=hH (fun(W:World) (hx:Ext wr W)=>Qma (gNo.ext hpp hx) (HMX.o W (ext_trans HW.o hx)));have HEK:=hH ek;clear hpp ek;by_cases g:Qdz p m<0
   ·have HF:=hH (Qv2 HS.o HH.o hhi HEK.o g);have t1:decide (Qdz p m<0)=true:=decide_eq_true g;generalize Qdz p m=od at *;clear g;go_wp2_with fail
    refine Qad (fun W2 eW2=> ?_);obtain⟨e0,e1,e2,e3⟩:=rR4 eW2 w.heap.size (.int .i64 m.site) (.int .i64 m.number) (.slice a2 n2 c2) (.slice a3 n3 c3);have f0:=rL eW2 ⟨b,o+h * 4,none⟩ (.int .i64 p.site);have f1:=rL eW2 ⟨b,o+h * 4+1,none⟩ (.int .i64 p.number);have f2:=rL eW2 ⟨b,o+h * 4+2,none⟩ (.slice ap np cp);have f3:=rL eW2 ⟨b,o+h * 4+3,none⟩ (.slice aq nq cq);have zW2_0:=zE eW2 b;have zW2_1:=zE eW2 w.heap.size;have hw2:=xE wr eW2;clear eW2;refine Qaa fol kR (fun hlater=> ?_);repeat(go_big_quiet_step ((first
      |(go_at_call 155;(with_reducible exact Qah (HCM.o _ (ext_trans hw2 (Later.ext _))))))))
    refine wpQuiet_nil ?_;exact Za0
   ·have HF:=hH (Qtu HS.o HH.o hlo hhi HEK.o g);have t1:decide (Qdz p m<0)=false:=decide_eq_false g;generalize Qdz p m=od at *;clear g;go_wp2_with fail
    refine Qad (fun W2 eW2=> ?_);obtain⟨e0,e1,e2,e3⟩:=rR4 eW2 w.heap.size (.int .i64 m.site) (.int .i64 m.number) (.slice a2 n2 c2) (.slice a3 n3 c3);have f0:=rL eW2 ⟨b,o+h * 4,none⟩ (.int .i64 p.site);have f1:=rL eW2 ⟨b,o+h * 4+1,none⟩ (.int .i64 p.number);have f2:=rL eW2 ⟨b,o+h * 4+2,none⟩ (.slice ap np cp);have f3:=rL eW2 ⟨b,o+h * 4+3,none⟩ (.slice aq nq cq);have zW2_0:=zE eW2 b;have zW2_1:=zE eW2 w.heap.size;have hw2:=xE wr eW2;clear eW2;refine Qaa fol kR (fun hlater=> ?_);repeat(go_big_quiet_step ((first
      |(go_at_call 155;(with_reducible exact Qah (HCM.o _ (ext_trans hw2 (Later.ext _))))))))
    refine wpQuiet_nil ?_;exact Za2
  ·have hji:j=i:=oM;subst hji;by_cases hin:j<l.length
   ·obtain⟨b,o,p,ap,np,cp,aq,nq,cq,rfl,hb,ek,hpp,y0,y1,y2,y3⟩:=Qdj (HL.o.ext gNo HW.o) hin;have HCM:=hH (fun(W:World) (hx:Ext wr W)=>Qma (gNo.ext hpp hx) (HMX.o W (ext_trans HW.o hx)));have HF:=hH (Q2l HS.o HH.o ek);have t2:decide ((j:Int)<(l.length:Int))=true:=decide_eq_true oM;have t3:decide (j<l.length)=true:=decide_eq_true oM;clear hpp ek;generalize Qdz p m=od at *;go_wp2_with fail
    refine Qad (fun W2 eW2=> ?_);obtain⟨e0,e1,e2,e3⟩:=rR4 eW2 w.heap.size (.int .i64 m.site) (.int .i64 m.number) (.slice a2 n2 c2) (.slice a3 n3 c3);have f0:=rL eW2 ⟨b,o+j * 4,none⟩ (.int .i64 p.site);have f1:=rL eW2 ⟨b,o+j * 4+1,none⟩ (.int .i64 p.number);have f2:=rL eW2 ⟨b,o+j * 4+2,none⟩ (.slice ap np cp);have f3:=rL eW2 ⟨b,o+j * 4+3,none⟩ (.slice aq nq cq);have zW2_0:=zE eW2 b;have zW2_1:=zE eW2 w.heap.size;have hw2:=xE wr eW2;clear eW2;refine Qaa fol kR (fun hlater=> ?_);repeat(go_big_quiet_step ((first
      |(go_at_call 155;(with_reducible exact Qah (HCM.o _ (ext_trans hw2 (Later.ext _))))))))
    refine wpQuiet_nil ?_;rintro w3 ⟨⟨w3x,hx3⟩,rfl⟩;clear hlater;go_wp2_with fail
    refine bodyPost_ret (v:= .tuple #[.int .i64 (j:Nat),.bool (od==0)]) (by simp[results,Tryz.results154,go_sem]) rfl ⟨by rw[Qoq HH.o,HF.o],ext_trans HW.o (ext_trans hw2 hx3)⟩
   ·have HF:=hH (Q59 HH.o oM);have t2:decide ((j:Int)<(l.length:Int))=false:=decide_eq_false oM;have t3:decide (j<l.length)=false:=decide_eq_false oM;go_wp2_with fail
    refine Qad (fun W2 eW2=> ?_);obtain⟨e0,e1,e2,e3⟩:=rR4 eW2 w.heap.size (.int .i64 m.site) (.int .i64 m.number) (.slice a2 n2 c2) (.slice a3 n3 c3);have zW2_0:=zE eW2 w.heap.size;have hw2:=xE wr eW2;clear eW2;refine Qaa fol kR (fun hlater=> ?_);repeat(go_big_quiet_step ((fail)))
    refine wpQuiet_nil ?_;rintro w3 ⟨⟨w3x,hx3⟩,rfl⟩;clear hlater;go_wp2_with fail
    refine bodyPost_ret (v:= .tuple #[.int .i64 (j:Nat),.bool false]) (by simp[results,Tryz.results154,go_sem]) rfl ⟨by rw[Qoq HH.o,HF.o],ext_trans HW.o (ext_trans hw2 hx3)⟩
def Val:Option Nat→Int
 |none=> -1
 |some i=>i
def Q4z (g:Nat) (sn:List Int) (w:World):Prop:=∃v,w.cell? ⟨g,3,none⟩=some v∧RSl Qe1 1 (fun _=>True) w v sn∧g<w.heap.size
theorem Q1i {g:Nat} {sn:List Int} {w W:World} (h:Q4z g sn w) (hx:Ext w W):Q4z g sn W:=by
 obtain⟨v,h0,h1,h3⟩:=h;exact⟨v,(hx.cells _ _ h3).trans h0,h1.ext Qd6 hx,Nat.lt_of_lt_of_le h3 hx.size⟩
theorem Q19 {l:List No} {p:No→Bool} {k:Nat} {x:No} (h:∀t y,l[t]?=some y→t<k→p y=false) (hx:l[k]?=some x) (hp:p x=true):l.findIdx? p=some k:=by
 obtain⟨h1,rfl⟩:=List.getElem?_eq_some_iff.1 hx;rw[List.findIdx?_eq_some_iff_getElem];refine⟨h1,hp,fun j hj=> ?_⟩;have:=h j l[j] (List.getElem?_eq_getElem oM) hj;simpa using this
theorem Q18 {l:List No} {p:No→Bool} (h:∀t y,l[t]?=some y→t<l.length→p y=false):l.findIdx? p=none:=by
 rw[List.findIdx?_eq_none_iff];intro x hx;obtain⟨t,ht⟩:=List.getElem?_of_mem hx;exact h t x ht (List.getElem?_eq_some_iff.1 ht).1
theorem Q2a {l:List No} {p:No→Bool} {k:Nat} {x:No} (h:∀t y,l[t]?=some y→t<k→p y=false) (hx:l[k]?=some x) (hp:p x=false):∀t y,l[t]?=some y→t<k+1→p y=false:=by
 intro t y hy ht;by_cases h1:t=k
 ·subst h1;rw[hx] at hy;injection hy with hy
  subst hy;exact hp
 ·exact h t y hy oM
theorem Q26 {F:Nat→Prop} {w:World} {cs:List Value} {n:No} {g:Nat} {sn:List Int} (h:RNo F w cs n) (hg:Q4z g sn w) (hs:Qbx sn=0) (hn:Qa0 n=0):
  Calls Tryz.prog 201 #[.agg cs.toArray,.pointer (some ⟨g,0,none⟩)] w fun e w'=>e= .returned (.bool (Qb5 sn n))∧Ext w w':=by
 obtain⟨v0,g0,g1,g2⟩:=hg;have HM:=hH (fun(W:World) (hx:Ext w W)=>Qxr (g1.ext Qd6 hx) (gNo.ext h hx) hs hn);obtain⟨a0,n0,c0,rfl⟩:=g1.slice;obtain⟨v,u,rfl,_,_,h1,h2⟩:=h;obtain⟨a1,n1,c1,rfl⟩:=h1.slice;obtain⟨a2,n2,c2,rfl⟩:=h2.slice;have hgn:¬g=w.heap.size:=oM;clear h1 h2 g1;go_enter Tryz.func201,Tryz.ntmps201;go_wp2_with (go_at_call 144;go_must ((with_reducible refine(HM.o _ Qac).mono ?_);rintro e w3 ⟨rfl,hx3⟩;skip))
 go_ret;exact⟨rfl,ext_trans Qac hx3⟩
theorem Qzb {F:Nat→Prop} {w:World} {v:Value} {l:List No} {g:Nat} {sn:List Int} (h:RSl RNo 4 F w v l) (hg:Q4z g sn w) (hs:Qbx sn=0) (hn:∀n∈l,Qa0 n=0):
  Calls Tryz.prog 200 #[v,.func (.func 201) #[] #[.pointer (some ⟨g,0,none⟩)]] w fun e w'=>e= .returned (.int .i64 (Val (l.findIdx? (Qb5 sn))))∧Ext w w':=by
 obtain⟨a1,n1,c1,rfl⟩:=h.slice;obtain⟨rfl,k1,k1'⟩:=h.len;unfold maxLen at k1';have q1:l.length≤9223372036854775807:=oM;clear k1 k1';have HL:=hH h;obtain⟨p,hp⟩:∃p:No→Bool,p=Qb5 sn:=⟨_,rfl⟩;rw[←hp];have HP:=hH (fun(W:World) (hx:Ext w W) (F':Nat→Prop) (cs:List Value) (x:No) (hx':x∈l) (h':RNo F' W cs x)=>(show Calls Tryz.prog 201 #[.agg cs.toArray,.pointer (some ⟨g,0,none⟩)] W (fun e w'=>e= .returned (.bool (p x))∧Ext W w') from by rw[hp];exact Q26 h' (Q1i hg hx) hs (hn x hx')));clear h hg hp hn hs;go_enter Tryz.func200,Tryz.ntmps200;go_wp2
 go_loopw [8] (fun i wr=>∃j:Nat,j≤l.length∧i= .int .i64 j∧Hid (∀t y,l[t]?=some y→t<j→p y=false)∧Ext w wr) (fun i _=>l.length-(intOf i).toNat)
 case atStart=>exact⟨0,oM,rfl,hH (fun _ _ _ h=>by omega),ext_refl _⟩
 case round=>
  obtain⟨j,hk1,rfl,ho,hx⟩:=hrel;have HX:=hH hx;clear hx;by_cases h1:j<l.length
  ·obtain⟨b1,o1,d,ap,np,cp,aq,nq,cq,rfl,hb1,e1,hpp,y0,y1,y2,y3⟩:=Qdj (HL.o.ext gNo HX.o) h1;have hmem:=List.mem_of_getElem? e1;have HC0:=hH (fun(W:World) (hx:Ext wr W)=>HP.o W (ext_trans HX.o hx) _ _ _ hmem (gNo.ext hpp hx));have HE:=hH e1;clear e1 hb1 hpp hmem;cases g1:p d with
   |true=>
    have HC:=hH (Q19 ho.out HE.o g1);rw[g1] at HC0;go_wp2_with (go_at_call 201;go_must ((with_reducible refine(HC0.o _ Qac).mono ?_);rintro e w1 ⟨rfl,hx1⟩;skip))
    go_ret;exact⟨by rw[HC.o];rfl,ext_trans HX.o hx1⟩
   |false=>
    have HD:=hH (Q2a ho.out HE.o g1);rw[g1] at HC0;go_wp2_with (go_at_call 201;go_must ((with_reducible refine(HC0.o _ Qac).mono ?_);rintro e w1 ⟨rfl,hx1⟩;skip))
    go_roundw
    case rel=>exact⟨j+1,oM,by go_num,HD,ext_trans HX.o hx1⟩
    case measure=>simp[intOf];omega
  ·have hk:j=l.length:=oM;subst hk;have HO:=hH (Q18 ho.out);clear ho;go_wp2
   go_ret;exact⟨by rw[HO.o];rfl,HX.o⟩
end Go.Proofs.YtgnccjojfebkeaaGreat
