/- RelayNew, walked. -/
import Derived.Test.YtgnccjojfebkeaaGreatQ44220a1dbb
import Derived.Test.YtgnccjojfebkeaaGreatQe7ae9feb46
import Derived.Test.YtgnccjojfebkeaaGreatQ67e18446e6
import Derived.Test.YtgnccjojfebkeaaGreatQ0ab0543141
import Derived.Test.YtgnccjojfebkeaaGreatQ3b870ebffa
import Derived.Test.YtgnccjojfebkeaaGreatQ453a98ae2d
import Derived.BigRegion
import Derived.Test.YtgnccjojfebkeaaGreatQa6d0d22334
import Derived.Test.YtgnccjojfebkeaaGreatQd9fe7e2782
import Derived.Test.YtgnccjojfebkeaaGreatQ2b02e7f86f
import Derived.Test.YtgnccjojfebkeaaGreatQ9fee5ace90
import Derived.Test.YtgnccjojfebkeaaGreatQ5ffe96eb4e
import Derived.Test.YtgnccjojfebkeaaGreatQ067801634e
import Derived.Test.YtgnccjojfebkeaaGreatQ1396365854
import Derived.Test.YtgnccjojfebkeaaGreatQe2c3620f18
set_option linter.unusedVariables false
set_option linter.unusedSimpArgs false
set_option maxRecDepth 100000
set_option maxHeartbeats 4000000
namespace Go.Proofs.YtgnccjojfebkeaaGreat
open Go Go.RowKit Go.BigFrame Cp
def Vf8 (L:List No) (i:Nat):Bool:=(List.range i).all (Vex L)
theorem Vfw (L:List No) (i:Nat):Vf8 L (i+1)=(Vf8 L i && Vex L i):=by
 unfold Vf8;rw[List.range_succ,List.all_append];simp
theorem covB_iff {L:List No} {k:Nat}:Vf8 L k=true↔∀i,i<k→Vex L i=true:=by
 unfold Vf8;rw[List.all_eq_true];exact⟨fun h i hi=>h i (List.mem_range.2 hi),fun h i hi=>h i (List.mem_range.1 hi)⟩
theorem Vge {L:List No} (h:Vd7 L=0):L.length≤300:=(checkLog_ok.1 h).1
theorem Vgp {F:Nat→Prop} {w:World}:RSt F w [.slice none 0 0,.slice none 0 0] ([],[]):=⟨_,_,rfl,RSl.nil_ (Nat.zero_le _),RSl.nil_ (Nat.zero_le _)⟩
theorem Vgo {F:Nat→Prop} {w:World} {b c:Nat} {xs:List Int} (h:∀i x,xs[i]?=some x→w.cell? ⟨b,i,none⟩=some (.int .i64 x)∧I64 x) (hF:F b) (hb:b<w.heap.size) (h1:xs.length≤c) (h2:c≤maxLen):RSl Qe1 1 F w (.slice (some ⟨b,0,none⟩) xs.length c) xs:=
 ⟨_,c,rfl,h1,h2,fun _=>⟨b,0,rfl,hF,hb,fun i x hi=>⟨[.int .i64 x],rfl,by simpa using Qez (h i x hi).1,rfl,(h i x hi).2⟩⟩⟩
theorem Vfv {F:Nat→Prop} {W:World} {b:Nat} {l:List No} (h:∀j,j<5→W.cell? ⟨b,j,none⟩=some (.int .i64 (Vea l (j:Int):Nat))) (hb:b<W.heap.size) (hF:F b) (hl:l.length≤300):
  RSl Qe1 1 F W (.slice (some ⟨b,0,none⟩) 5 5) (Vfr l):=
 Vgo (xs:=Vfr l) (fun j x hj=>by
  have hj5:j<5:=(List.getElem?_eq_some_iff.1 hj).1;have e:x=(Vea l (j:Int):Int):=by
   match j,hj5,hj with
   |0,_,hj=>exact(Option.some.inj hj).symm
   |1,_,hj=>exact(Option.some.inj hj).symm
   |2,_,hj=>exact(Option.some.inj hj).symm
   |3,_,hj=>exact(Option.some.inj hj).symm
   |4,_,hj=>exact(Option.some.inj hj).symm
  have h3:=Veo l (j:Int);rw[e];exact⟨h j hj5,Qal oM oM⟩) hF hb (Nat.le_refl 5) (by unfold maxLen;decide)
theorem Vha {L:List No} {i:Nat} {d:No} (h:L[i]?=some d):Qgh (Vfr (L.take i)) d.needs=Vex L i:=by unfold Vex;rw[h]
theorem Vf9 {L:List No} {i:Nat} {a c:Bool} (h:Vf8 L i=a) (hc:Vex L i=c):Vf8 L (i+1)=(a && c):=by rw[Vfw,h,hc]
theorem Vfg {d e:Dk} {A P:List No} {i:Nat} {n:No} (h:P[i]?=some n) (hr:Vd8 d (A++P.take i)=some e) (h0:Q3r e n=0):Vd8 d (A++P.take (i+1))=some (Van e n):=by
 obtain⟨h1,h2⟩:=List.getElem?_eq_some_iff.1 h;rw[List.take_succ_eq_append_getElem h1,h2,←List.append_assoc,Ves,hr];simp[h0]
theorem Vg1 {L:List No} {c m:Nat} (hL:Vd7 L=0) (hc:c<L.length) (hm:m≤300):Vei L (c:Int) (m:Int)=0∧Vez L (c:Int) (m:Int)=(L.drop c).take m:=by
 have h0:Vei L (c:Int) (m:Int)=0:=by
  unfold Vei inB;rw[if_neg (by simpa using hL),if_neg sP]
 refine⟨h0,?_⟩;unfold Vez;rw[if_pos h0];simp
theorem Ve5 {L:List No} (h:Vd7 L=0):∀k,((L.take k).flatMap (·.deeds)).length≤20 * k∧∀d∈(L.take k).flatMap (·.deeds),Qat d=0
 |0=>by simp
 |k+1=>by
  obtain⟨i1,i2⟩:=Ve5 h k;cases g:L[k]? with
  |none=>
   rw[List.take_of_length_le (by have:=List.getElem?_eq_none_iff.1 g;omega)];rw[List.take_of_length_le (by have:=List.getElem?_eq_none_iff.1 g;omega)] at i1 i2;exact⟨oM,i2⟩
  |some n=>
   obtain⟨h1,h2⟩:=List.getElem?_eq_some_iff.1 g;have hn:=checkN_right.1 ((checkLog_ok.1 h).2 k n g).1;rw[List.take_succ_eq_append_getElem h1,h2,List.flatMap_append];have e:([n].flatMap (·.deeds))=n.deeds:=sI;rw[e];refine⟨?_,fun d hd=> ?_⟩
   ·rw[List.length_append];have:=hn.few;omega
   ·rcases List.mem_append.1 hd with hd|hd
    ·exact i2 d hd
    ·exact hn.deeds d hd
theorem Vfx {L:List No} {k:Nat} {n:No} (h:L[k]?=some n):(L.take (k+1)).flatMap (·.deeds)=(L.take k).flatMap (·.deeds)++n.deeds:=by
 obtain⟨h1,h2⟩:=List.getElem?_eq_some_iff.1 h;rw[List.take_succ_eq_append_getElem h1,h2,List.flatMap_append];simp
theorem Vho {a w:World} {b:Nat} (h:Ext a w) (hb:a.heap.size≤b) (u0 u1 u2 u3 u4 u5 u6:Value):Ext a (((((((w.setCell ⟨b,0,none⟩ u0).setCell ⟨b,1,none⟩ u1).setCell ⟨b,2,none⟩ u2).setCell ⟨b,3,none⟩ u3).setCell ⟨b,4,none⟩ u4).setCell ⟨b,5,none⟩ u5).setCell ⟨b,6,none⟩ u6):=
 ext_set (ext_set (ext_set (ext_set (ext_set (ext_set (ext_set h hb _) hb _) hb _) hb _) hb _) hb _) hb _
theorem Vgt {F:Nat→Prop} {w:World} {b:Nat} (hF:¬F b) (u0 u1 u2 u3 u4 u5 u6:Value):Keeps F w (((((((w.setCell ⟨b,0,none⟩ u0).setCell ⟨b,1,none⟩ u1).setCell ⟨b,2,none⟩ u2).setCell ⟨b,3,none⟩ u3).setCell ⟨b,4,none⟩ u4).setCell ⟨b,5,none⟩ u5).setCell ⟨b,6,none⟩ u6):=
 Qae (Qae (Qae (Qae (Qae (Qae (Qae Qag (fun _=>hF) _) (fun _=>hF) _) (fun _=>hF) _) (fun _=>hF) _) (fun _=>hF) _) (fun _=>hF) _) (fun _=>hF) _
theorem Zbj {p:Prop} (h:p:=by
 go_wp2_with (first|(go_at_call 54;go_must ((with_reducible refine(HN4.o _).mono ?_);rintro e w3 ⟨xa1,xn1,xc1,xa2,xn2,xc2,xa3,xn3,xc3,xa4,xn4,xc4,xa5,xn5,xc5,rfl,hd3,hx3⟩;have c3_0:=hx3.cl rb 0 (.slice a3 L.length c3);have hz3:=hx3.size;(try simp at hz3);have hr3:=zL hx3 rb;have HX3:=xY V1 hx3;have HD3:=hH hd3;clear hd3 hx3)))
 go_ret;exact⟨rfl,ext_trans HX.o (ext_trans HX3.o Qac)⟩):p:=h
theorem Vfb {F:Nat→Prop} {w:World} {v:Value} {l:List No} {step:Int} (h:RSl RNo 4 F w v l) (ic:I64 step):
  Calls Tryz.prog 11 #[v,.int .i64 step] w fun e w'=>e= .returned (.bool true)∧Ext w w':=by
 have HL:=hH (fun(W:World) (hx:Ext w W)=>h.ext gNo hx);obtain⟨a0,n0,c0,rfl⟩:=h.slice;obtain rfl:n0=l.length:=h.len.1;have hlm:l.length≤9223372036854775807:=by have:=h.len.2;unfold maxLen at this;omega
 clear h;go_enter Tryz.func11,Tryz.ntmps11;go_wp2_with (first|(go_at_call 23;go_must ((with_reducible refine(Vet _).mono ?_);rintro e w1 ⟨rfl,hx1⟩;have HX1:=xY w hx1;clear hx1))|(go_at_call 22;go_must ((with_reducible refine(Qhs _).mono ?_);rintro e w2 ⟨rfl,hx2⟩;have HX2:=xX HX1 hx2;clear hx2)))
 refine Qad (fun W1 eW1=> ?_);have r0:=rL eW1 ⟨w2.heap.size,0,none⟩ (.slice none 0 0);have rf0:W1.frozen? ⟨w2.heap.size,0,none⟩=false:=by rw[eW1];go_simp
 have HXW:=hH (show Ext w W1 by rw[eW1];exact ext_trans HX2.o Qac);have hr0:w2.heap.size<W1.heap.size:=World.block_lt_of_cell? _ _ r0;have hwr1:w.heap.size≤w2.heap.size:=HX2.o.size;clear eW1 HX1 HX2;generalize w2.heap.size=rb at *;go_loopw [6] (fun iv wr=>∃(k:Nat) (L:List No) (a:Option Addr) (c:Nat),k≤l.length∧iv= .int .i64 k∧wr.cell? ⟨rb,0,none⟩=some (.slice a L.length c)∧wr.frozen? ⟨rb,0,none⟩=false∧Hid (Vd7 L=0∧∀n∈L,n.site≠4)∧Hid (RSl RNo 4 (fun j=>j≠rb) wr (.slice a L.length c) L)∧Hid (Ext w wr)) (fun iv _=>l.length-(intOf iv).toNat)
 case atStart=>exact⟨0,[],none,0,Nat.zero_le _,rfl,r0,rf0,hH ⟨rfl,sI⟩,hH (RSl.nil_ (Nat.zero_le _)),HXW⟩
 case round=>
  obtain⟨k,L,a3,c3,hk,rfl,q0,qf,HC,HR,HX⟩:=hrel;have hrb:rb<wr.heap.size:=World.block_lt_of_cell? _ _ q0;clear r0 rf0;by_cases hlt:k<l.length
  ·obtain⟨b,o,d,a1,n1,c1,a2,n2,c2,rfl,hb,ek,hd,y0,y1,y2,y3⟩:=Qdj (HL.o wr HX.o) hlt;by_cases h4:d.site=4
   ·have t4:(d.site==4)=true:=by simpa using h4
    clear ek hd h4;go_wp2_with fail
    go_roundw
    case rel=>exact⟨k+1,L,a3,c3,hlt,by go_num,gS,gS,HC,hH (HR.o.ext gNo Qac),hH (ext_trans HX.o Qac)⟩
    case measure=>simp[intOf];omega
   ·have t4:(d.site==4)=false:=by simpa using h4
    have HPO:=hH (fun(W:World) (hx:Ext wr W)=>Vey (HR.o.ext gNo hx) (gNo.ext hd hx));have HPR:=hH (fun(h:Vee L d=0)=>Veg h);have HD4:=hH h4;clear ek hd h4;unfold Vfs at HPO;generalize Vee L d=er at *;generalize Vel L d=ok at *;generalize Vek L d=V at *;go_upto_region 8 with fail
    refine Qad (fun W6 eW6=> ?_);have p0:=rL eW6 ⟨rb,0,none⟩ (.slice a3 L.length c3);have pf:W6.frozen? ⟨rb,0,none⟩=false:=by rw[eW6];go_simp
    have s0:=rL eW6 ⟨b,o+k * 4,none⟩ (.int .i64 d.site);have s1:=rL eW6 ⟨b,o+k * 4+1,none⟩ (.int .i64 d.number);have s2:=rL eW6 ⟨b,o+k * 4+2,none⟩ (.slice a1 n1 c1);have s3:=rL eW6 ⟨b,o+k * 4+3,none⟩ (.slice a2 n2 c2);have HX6:=hH (xE wr eW6);have zr6:rb<W6.heap.size:=World.block_lt_of_cell? _ _ p0;have zb6:b<W6.heap.size:=World.block_lt_of_cell? _ _ s0;clear eW6 y0 y1 y2 y3 q0 qf t4;go_cut [7,8,9] from 31 to 55 (fun s7 s8 s9 wx=>s8= .bool ok∧s9= .int .i64 er∧∃(ob:Nat) (a4:Option Addr) (c4:Nat),s7= .pointer (some ⟨ob,0,none⟩)∧wx.cell? ⟨ob,0,none⟩=some (.slice a4 V.length c4)∧wx.cell? ⟨rb,0,none⟩=some (.slice a3 L.length c3)∧wx.frozen? ⟨rb,0,none⟩=false∧Hid (RSl RNo 4 (fun j=>j≠rb) wx (.slice a4 V.length c4) V)∧Hid (Ext wr wx))
    case first=>
     go_region_law (first
      |(go_simp;go_at_call 39;go_must ((with_reducible refine(HPO.o _ (ext_trans HX6.o Qac)).mono ?_);rintro e w4 ⟨u4,rfl,hu4,hx4⟩;obtain⟨a4,n4,c4,rfl⟩:=hu4.slice;obtain rfl:n4=V.length:=hu4.len.1;have HX4:=xY W6 hx4;have HV4:=hH hu4;clear hu4;have m0:=(HX4.o.cells rb 0 zr6).trans p0;have mf:=(HX4.o.frz rb 0 zr6).trans pf;have hm4:rb<w4.heap.size:=World.block_lt_of_cell? _ _ m0;(try(refine Qaw (T:=w4.cell? ⟨W6.heap.size,0,none⟩=some (.slice none 0 0)) ?_ (fun nc=> ?_);(focus(refine Eq.trans (hx4.cells (W6.heap.size) 0 ?_) ?_;(focus((first|omega|(simp<;>omega));done));(focus((first|(with_reducible assumption)|go_simp);done));done))));(try(refine Qaw (T:=w4.frozen? ⟨W6.heap.size,0,none⟩=false) ?_ (fun nf=> ?_);(focus(refine Eq.trans (hx4.frz (W6.heap.size) 0 ?_) ?_;(focus((first|omega|(simp<;>omega));done));(focus((first|(with_reducible assumption)|go_simp);done));done))));(try(refine Qaw (T:=W6.heap.size<w4.heap.size) ?_ (fun nl=> ?_);(focus(have h9:=World.block_lt_of_cell? _ _ nc;exact h9)))))))
     all_goals (go_wp2_with fail;go_meet)
     all_goals
      have hX4:=HX4.o;refine⟨rfl,rfl,_,a4,c4,rfl,by first|(with_reducible assumption)|go_simp,by first|(with_reducible assumption)|go_simp,by first|(with_reducible assumption)|go_simp,?_,hH (ext_trans HX6.o Qac)⟩;have hz6:=HX4.o.size;first
       |exact hH (RSl.more gNo (fun j hj _=>(by have hj':_≤j:=hj;(try simp at hj');omega)) (RSl.keep gNo (Qae Qag (by intro _ h;have h':=h;first|(simp at h';done)|(simp at h';omega)|omega) _) HV4.o))
       |exact hH (RSl.more gNo (fun j hj _=>(by have hj':_≤j:=hj;(try simp at hj');omega)) (RSl.ext gNo HV4.o Qac))
    case rest=>
     obtain⟨rfl,rfl,ob,a4,c4,rfl,x0,q0,qf,HV,HXC⟩:=hcut;have hob:ob<wc.heap.size:=World.block_lt_of_cell? _ _ x0;have hrc:rb<wc.heap.size:=World.block_lt_of_cell? _ _ q0;clear HPO p0 pf s0 s1 s2 s3 HX6;by_cases he:er=0
     ·obtain⟨_,_,g3,g4,g5⟩:=HPR.o he;have t0:(er==0)=true:=by simp[he]
      have HCV:=hH (show Vd7 V=0∧∀n∈V,n.site≠4 from⟨g3,fun n hn=>by
       cases ok with
       |true=>
        rw[g4 rfl] at hn;rcases List.mem_append.1 hn with h|h
        ·exact HC.o.2 n h
        ·rw[List.mem_singleton.1 h];exact HD4.o
       |false=>rw[g5 rfl] at hn;exact HC.o.2 n hn⟩)
      clear he g3 g4 g5 HPR;go_wp2_with fail
      go_roundw
      case rel=>exact⟨k+1,V,a4,c4,hlt,by go_num,gS,gS,HCV,hH (RSl.keep gNo (Qae Qag sI _) (HV.o.ext gNo Qac)),hH (ext_set (ext_trans HX.o (ext_trans HXC.o Qac)) oM _)⟩
      case measure=>simp[intOf];omega
     ·have t0:(er==0)=false:=by simpa using he
      clear he HPR;go_wp2_with fail
      go_roundw
      case rel=>exact⟨k+1,L,a3,c3,hlt,by go_num,gS,gS,HC,hH ((HR.o.ext gNo HXC.o).ext gNo Qac),hH (ext_trans HX.o (ext_trans HXC.o Qac))⟩
      case measure=>simp[intOf];omega
  ·clear HXW;go_wp2_with fail
   obtain⟨V1,eV1⟩:∃W:World,W=wr:=⟨wr,rfl⟩;subst eV1;clear hlt hk;have hL3:=Vge HC.o.1;have HN4:=hH (fun(W:World)=>(Q6m (site:=4) (Qal dC dC) W).mono fun _ _ h=>Vgs h);rw[show Vdx 4=Vam 4 from rfl,show Vdw 4=0 from rfl] at HN4;by_cases g1:step<1
   ·have t1:decide (step<1)=true:=decide_eq_true g1;clear g1;exact Zbj
   have t1:decide (step<1)=false:=decide_eq_false g1;by_cases g2:300<step
   ·have t2:decide (300<step)=true:=decide_eq_true g2;clear g1 g2;exact Zbj
   have t2:decide (300<step)=false:=decide_eq_false g2;obtain⟨m,rfl⟩:∃m:Nat,step=(m:Int):=⟨step.toNat,oM⟩;have hm1:1≤m:=oM;have hm3:m≤300:=oM;have hmk:=Qt6;clear g1 g2;go_upto_region 16 with(first|(go_at_call 54;go_must ((with_reducible refine(HN4.o _).mono ?_);rintro e w3 ⟨xa1,xn1,xc1,xa2,xn2,xc2,xa3,xn3,xc3,xa4,xn4,xc4,xa5,xn5,xc5,rfl,hd3,hx3⟩;have c3_0:=hx3.cl rb 0 (.slice a3 L.length c3);have hz3:=hx3.size;(try simp at hz3);have hr3:=zL hx3 rb;have HX3:=xY V1 hx3;have HD3:=hH hd3;clear hd3 hx3)))
   refine Qad (fun W2 eW2=> ?_);have e0:=rL eW2 ⟨rb,0,none⟩ (.slice a3 L.length c3);have HX2:=hH (show Ext V1 W2 by rw[eW2];exact ext_trans HX3.o Qac);have HDD:=hH (show DkAt (fun k=>k≠w3.heap.size∧k≠w3.heap.size+1) (w3.heap.size) (Vam 4) W2 (.slice xa1 xn1 xc1) (.slice xa2 xn2 xc2) (.slice xa3 xn3 xc3) (.slice xa4 xn4 xc4) (.slice xa5 xn5 xc5) from⟨by rw[eW2];go_simp,by rw[eW2];go_simp,by rw[eW2];go_simp,by rw[eW2];go_simp,by rw[eW2];go_simp,by rw[eW2];go_simp,by rw[eW2];go_simp,fun o=>by rw[eW2];go_simp,gDk.ext (gDk.more (fun k hk hl=>⟨Nat.ne_of_lt hl,Nat.ne_of_lt (Nat.lt_succ_of_lt hl)⟩) HD3.o) (show Ext w3 W2 by rw[eW2];exact Qac)⟩);have HMB:=hH (show∀j,j<5→W2.cell? ⟨w3.heap.size+1,j,none⟩=some (.int .i64 (Vea (L.take 0) (j:Int):Nat))∧W2.frozen? ⟨w3.heap.size+1,j,none⟩=false by
    intro j hj;rw[eW2]
    match j,hj with
    |0,_=>exact⟨by go_simp;rfl,gS⟩
    |1,_=>exact⟨by go_simp;rfl,gS⟩
    |2,_=>exact⟨by go_simp;rfl,gS⟩
    |3,_=>exact⟨by go_simp;rfl,gS⟩
    |4,_=>exact⟨by go_simp;rfl,gS⟩
    |j+5,h=>omega)
   have hrw:rb<w3.heap.size:=Nat.lt_of_lt_of_le hrb HX3.o.size;have hVw:V1.heap.size≤w3.heap.size:=HX3.o.size;have hbs:w3.heap.size+1<W2.heap.size:=World.block_lt_of_cell? _ _ (HMB.o 0 oM).1;clear eW2 HD3 HX3 HN4 t1 t2 hmk q0 qf;generalize w3.heap.size=db at *;have HRW:=hH (fun(W:World) (hx:Ext V1 W)=>HR.o.ext gNo hx);have e9:db+1<W2.heap.size:=hbs;go_wp2_with fail
   go_loopw [13,14] (fun av iv wr=>∃i:Nat,i≤L.length∧iv= .int .i64 i∧Hid (av= .bool (Vf8 L i))∧Hid (∀j,j<5→wr.cell? ⟨db+1,j,none⟩=some (.int .i64 (Vea (L.take i) (j:Int):Nat))∧wr.frozen? ⟨db+1,j,none⟩=false)∧Hid (DkAt (fun k=>k≠db∧k≠db+1) db (Vam 4) wr (.slice xa1 xn1 xc1) (.slice xa2 xn2 xc2) (.slice xa3 xn3 xc3) (.slice xa4 xn4 xc4) (.slice xa5 xn5 xc5))∧Hid (Ext V1 wr)∧db+1<wr.heap.size∧wr.cell? ⟨rb,0,none⟩=some (.slice a3 L.length c3)) (fun _ iv _=>L.length-(intOf iv).toNat)
   case atStart=>exact⟨0,Nat.zero_le _,rfl,hH rfl,HMB,HDD,HX2,e9,e0⟩
   case round=>
    obtain⟨i,hi,rfl,HA,HM,HD,HXB,hwr,x0⟩:=hrel;obtain⟨ab,hab⟩:∃b:Bool,Vf8 L i=b:=⟨_,rfl⟩;have ha2:=HA.o;rw[hab] at ha2;subst ha2;have HAB:=hH hab;clear HA hab e0 e9 hbs;by_cases hlt:i<L.length
    ·obtain⟨b,o,d,a1,n1,c1,a2,n2,c2,ea,hb,ek,hd,y0',y1',y2',y3'⟩:=Qdj HR.o hlt;subst ea;have hdr:=((checkLog_ok.1 HC.o.1).2 i d ek).1;obtain⟨s,hs,hs5⟩:=Qnu (Qyp hdr).1;have hn5:=(Qyp hdr).2.2.1;have hsz:=HXB.o.size;have hbr:b<wr.heap.size:=oM;have hbw:¬b=db+1:=oM;have hrw2:¬rb=db+1:=oM;have y0:=(HXB.o.cells b _ hb).trans y0';have y2:=(HXB.o.cells b _ hb).trans y2';rw[hs] at y0;have hnd:=(Qit hd).1;obtain⟨m0,mf⟩:=HM.o s hs5;have hle:=Veo (L.take i) (s:Int);have hkl:(L.take i).length≤300:=by rw[List.length_take];omega
     have HTK:=hH (fun site=>Ve7 ek site);have HTK2:=HTK.o (s:Int);rw[if_pos hs] at HTK2;rw[hs] at HTK;obtain⟨cv,hcv⟩:∃c:Bool,Vex L i=c:=⟨_,rfl⟩;have HCO:=hH (fun(W:World) (hx:Ext wr W)=>Qtg (Vfv (F:=fun _=>True) (fun j hj=>(hx.cells _ j hwr).trans (HM.o j hj).1) (Nat.lt_of_lt_of_le hwr hx.size) trivial hkl) (hnd.ext Qd6 (ext_trans HXB.o hx)) rfl hn5);rw[Vha ek,hcv] at HCO;have HNX:=hH (Vf9 HAB.o hcv);clear hcv hdr hn5 hnd y0' y1' y2' y3' ek hd HAB;generalize hh:Vea (L.take i) (s:Int)=hn at *;have HW:=hH (Ve0 (n:=hn) oM);have hsI:(s:Int)<5:=oM;have hzr:rb<wr.heap.size:=World.block_lt_of_cell? _ _ x0;clear hkl;cases ab with
     |true=>
      clear hs hh hle;go_upto_region 18 with(first|(go_at_call 62;go_must ((with_reducible refine(HCO.o _ Qac).mono ?_);rintro e w5 ⟨rfl,hx5⟩;have y5_0:=hx5.cl b (o+i * 4) (.int .i64 (s:Int));have m5:=(hx5.cells (db+1) s hwr).trans m0;have mf5:=(hx5.frz (db+1) s hwr).trans mf;have r5:=hx5.cl rb 0 (.slice (some ⟨b,o,none⟩) L.length c3);have HX5:=hH (show Ext wr w5 from hx5);clear hx5)))
      refine Qad (fun W3 eW3=> ?_);have e0:=rL eW3 ⟨rb,0,none⟩ (.slice (some ⟨b,o,none⟩) L.length c3);have e3:W3.cell? ⟨db+1,s,none⟩=some (.int .i64 ((hn+1:Nat):Int)):=by rw[eW3,←HW.o];go_simp
      have hB:db+1<W3.heap.size:=World.block_lt_of_cell? _ _ e3;have HXW:=hH (show Ext V1 W3 by rw[eW3];exact ext_set (ext_trans HXB.o HX5.o) (show V1.heap.size≤db+1 from Nat.le_succ_of_le hVw) _);have HM3:=hH (show∀j,j<5→W3.cell? ⟨db+1,j,none⟩=some (.int .i64 (Vea (L.take (i+1)) (j:Int):Nat))∧W3.frozen? ⟨db+1,j,none⟩=false by
       intro j hj;rw[eW3];refine⟨?_,(World.frozen?_setCell _ _ _ _).trans ((HX5.o.frz (db+1) j hwr).trans (HM.o j hj).2)⟩;by_cases hjs:j=s
       ·subst hjs;rw[HTK2,←HW.o];exact World.cell?_setCell_same _ _ _ m5
       ·rw[HTK.o (j:Int),if_neg oM];exact(World.cell?_setCell_other _ _ _ _ (fun e=>hjs (by injection e with _ e;exact e.symm))).trans ((HX5.o.cells (db+1) j hwr).trans (HM.o j hj).1))
      have HD3:=hH (show DkAt (fun k=>k≠db∧k≠db+1) db (Vam 4) W3 (.slice xa1 xn1 xc1) (.slice xa2 xn2 xc2) (.slice xa3 xn3 xc3) (.slice xa4 xn4 xc4) (.slice xa5 xn5 xc5) by rw[eW3];exact(HD.o.ext HX5.o).oth (Nat.succ_ne_self db) (fun h=>h.2 rfl) _);clear eW3 HM HD HTK HTK2 m0 mf m5 y0 y2 x0 HX5 HXB HCO;go_wp2_with fail
      go_roundw
      case rel=>exact⟨i+1,hlt,by go_num,hH (by rw[HNX.o];rfl),HM3,HD3,HXW,hB,e0⟩
      case measure=>simp[intOf];omega
     |false=>
      clear hs hh hle HCO;go_upto_region 18 with fail
      refine Qad (fun W3 eW3=> ?_);have e0:=rL eW3 ⟨rb,0,none⟩ (.slice (some ⟨b,o,none⟩) L.length c3);have e3:W3.cell? ⟨db+1,s,none⟩=some (.int .i64 ((hn+1:Nat):Int)):=by rw[eW3,←HW.o];go_simp
      have hB:db+1<W3.heap.size:=World.block_lt_of_cell? _ _ e3;have HXW:=hH (show Ext V1 W3 by rw[eW3];exact ext_set HXB.o (show V1.heap.size≤db+1 from Nat.le_succ_of_le hVw) _);have HM3:=hH (show∀j,j<5→W3.cell? ⟨db+1,j,none⟩=some (.int .i64 (Vea (L.take (i+1)) (j:Int):Nat))∧W3.frozen? ⟨db+1,j,none⟩=false by
       intro j hj;rw[eW3];refine⟨?_,(World.frozen?_setCell _ _ _ _).trans (HM.o j hj).2⟩;by_cases hjs:j=s
       ·subst hjs;rw[HTK2,←HW.o];exact World.cell?_setCell_same _ _ _ m0
       ·rw[HTK.o (j:Int),if_neg oM];exact(World.cell?_setCell_other _ _ _ _ (fun e=>hjs (by injection e with _ e;exact e.symm))).trans (HM.o j hj).1)
      have HD3:=hH (show DkAt (fun k=>k≠db∧k≠db+1) db (Vam 4) W3 (.slice xa1 xn1 xc1) (.slice xa2 xn2 xc2) (.slice xa3 xn3 xc3) (.slice xa4 xn4 xc4) (.slice xa5 xn5 xc5) by rw[eW3];exact HD.o.oth (Nat.succ_ne_self db) (fun h=>h.2 rfl) _);clear eW3 HM HD HTK HTK2 m0 mf y0 y2 x0 HXB;go_wp2_with fail
      go_roundw
      case rel=>exact⟨i+1,hlt,by go_num,hH (by rw[HNX.o];rfl),HM3,HD3,HXW,hB,e0⟩
      case measure=>simp[intOf];omega
    ·obtain rfl:i=L.length:=oM;have HM':=hH (show∀j,j<5→wr.cell? ⟨db+1,j,none⟩=some (.int .i64 (Vea L (j:Int):Nat)) from fun j hj=>by
      have h:=(HM.o j hj).1;rw[List.take_length] at h;exact h)
     have HRM:=hH (Vfv (F:=fun k=>k≠db) HM'.o hwr (Nat.succ_ne_self db) hL3);have HDB:=hH (HD.o.more (G:=fun k=>k≠db) (fun k h=>h.1));have HRC:=hH (show Vd8 (Vam 4) (L.take 0)=some (Vam 4) from rfl);have hrd:¬rb=db:=oM;clear HM HM' HD hwr hlt hi;obtain⟨V2,eV2⟩:∃W:World,W=wr:=⟨wr,rfl⟩;subst eV2;go_wp2_with fail
     go_loopw [15] (fun iv wr=>∃(c:Nat) (e:Dk) (z1 z2 z3 z4 z5:Value),c≤600∧iv= .int .i64 c∧Hid (Vd8 (Vam 4) (L.take c)=some e)∧Hid (DkAt (fun k=>k≠db) db e wr z1 z2 z3 z4 z5)∧Hid (RSl Qe1 1 (fun k=>k≠db) wr (.slice (some ⟨db+1,0,none⟩) 5 5) (Vfr L))∧Hid (Ext V1 wr)∧wr.cell? ⟨rb,0,none⟩=some (.slice a3 L.length c3)) (fun iv _=>L.length-(intOf iv).toNat)
     case atStart=>exact⟨0,Vam 4,_,_,_,_,_,oM,rfl,HRC,HDB,HRM,HXB,x0⟩
     case round=>
      obtain⟨c,ed,z1,z2,z3,z4,z5,hc,rfl,HRE,HDE,HRN,HXE,q0⟩:=hrel;clear x0 HRC HDB HRM HXB;by_cases hlt:c<L.length
      ·obtain⟨hpe,hpv⟩:=Vg1 HC.o.1 hlt hm3;have HPU:=hH (fun(W:World) (hx:Ext wr W)=>Vfk (c:=(c:Int)) (m:=(m:Int)) (HRW.o W (ext_trans HXE.o hx)) (Qal oM oM) (Qal oM oM));unfold Vfu at HPU;rw[hpe,hpv] at HPU;obtain⟨P,hP⟩:∃P:List No,(L.drop c).take m=P:=⟨_,rfl⟩;rw[hP] at HPU;have HPT:=hH (show L.take (c+m)=L.take c++P from by rw[List.take_add,hP]);have hPl:P.length≤300:=by rw[←hP,List.length_take];omega
       have hzr:rb<wr.heap.size:=World.block_lt_of_cell? _ _ q0;clear hpe hpv hP;obtain⟨V4,eV4⟩:∃W:World,W=wr:=⟨wr,rfl⟩;subst eV4;go_wp2_with (first|(go_at_call 40;go_must ((with_reducible refine(HPU.o _ Qac).mono ?_);rintro e w4 ⟨u4,rfl,hv4,hx4⟩;obtain⟨pa,pn,pc,rfl⟩:=hv4.slice;obtain rfl:pn=P.length:=hv4.len.1;have HP4:=hH hv4;have HX4:=hH (show Ext V4 w4 from hx4);clear hv4 hx4)))
       have HD4:=hH (HDE.o.ext HX4.o);have HR4:=hH (HRN.o.ext Qd6 HX4.o);have HE4:=hH (ext_trans HXE.o HX4.o);have q4:=(HX4.o.cells rb 0 hzr).trans q0;have hdw:=HD4.o.lt;have HRS:=hH (show Vd8 (Vam 4) (L.take c++P.take 0)=some ed by rw[List.take_zero,List.append_nil];exact HRE.o);have HP5:=hH (show RSl RNo 4 (fun j=>j≠db) w4 (.slice pa P.length pc) P from RSl.more gNo (fun j hj _=>(by have hj':_≤j:=hj;have:=HDE.o.lt;omega)) HP4.o);clear q0 HDE HRN HXE HRE HPU HX4 HP4 hzr;obtain⟨V5,eV5⟩:∃W:World,W=w4:=⟨w4,rfl⟩;subst eV5;go_loopw [18] (fun iv wr=>∃(k:Nat) (e:Dk) (z1 z2 z3 z4 z5:Value),k≤P.length∧iv= .int .i64 k∧Hid (Vd8 (Vam 4) (L.take c++P.take k)=some e)∧Hid (DkAt (fun k=>k≠db) db e wr z1 z2 z3 z4 z5)∧Hid (RSl Qe1 1 (fun k=>k≠db) wr (.slice (some ⟨db+1,0,none⟩) 5 5) (Vfr L))∧Hid (RSl RNo 4 (fun j=>j≠db) wr (.slice pa P.length pc) P)∧Hid (Ext V1 wr)∧wr.cell? ⟨rb,0,none⟩=some (.slice a3 L.length c3)) (fun iv _=>P.length-(intOf iv).toNat)
       case atStart=>exact⟨0,ed,_,_,_,_,_,Nat.zero_le _,rfl,HRS,HD4,HR4,HP5,HE4,q4⟩
       case round=>
        obtain⟨k,e,z1,z2,z3,z4,z5,hk,rfl,HRE,HDE,HRN,HPP,HXE,q0⟩:=hrel;clear HRS HD4 HR4 HP5 HE4 q4 hdw;by_cases hkl:k<P.length
        ·obtain⟨b,o,d,a1,n1,c1,a2,n2,c2,ea,hb,ek,hd,u0,u1,u2,u3⟩:=Qdj HPP.o hkl;subst ea;have HRU:=hH (fun(W:World) (hx:Ext wr W)=>(Qwp (gDk.ext HDE.o.read hx) (gNo.ext hd hx)).mono fun _ _ h=>Vgs h);obtain⟨er,her⟩:∃x:Int,Q3r e d=x:=⟨_,rfl⟩;obtain⟨dU,hdU⟩:∃x:Dk,Van e d=x:=⟨_,rfl⟩;rw[her,hdU] at HRU;have HRX:=hH (fun(q:er=0)=>(show Vd8 (Vam 4) (L.take c++P.take (k+1))=some dU from hdU▸Vfg ek HRE.o (her.trans q)));have hpt:=HDE.o.parts;obtain⟨za1,zn1,zc1,rfl⟩:=hpt.1.slice;obtain⟨za2,zn2,zc2,rfl⟩:=hpt.2.1.slice;obtain⟨za3,zn3,zc3,rfl⟩:=hpt.2.2.1.slice;obtain⟨za4,zn4,zc4,rfl⟩:=hpt.2.2.2.1.slice;obtain⟨za5,zn5,zc5,rfl⟩:=hpt.2.2.2.2.slice;have hdb:=HDE.o.lt;obtain⟨y0,y1,y2,y3,y4,y5,y6⟩:=HDE.o.seven;generalize d.site=ds at *;generalize d.number=dn at *;clear her hdU hpt ek hd;go_upto_region 30 with fail
         go_cut [19,20] from 119 to 136 (fun s19 s20 wx=>s20= .int .i64 er∧∃(ub:Nat) (z1 z2 z3 z4 z5:Value),s19= .pointer (some ⟨ub,0,none⟩)∧Hid (DkAt (fun k=>k≠db) ub dU wx z1 z2 z3 z4 z5)∧¬ub=db∧Hid (Ext wr wx))
         case first=>
          clear HRX;have hFw:¬(wr.heap.size≠wr.heap.size∧wr.heap.size≠db):=fun h=>h.1 rfl
          go_region_law (first|(go_simp;go_at_call 31;go_must ((with_reducible refine(HRU.o _ Qac).mono ?_);rintro e w9 ⟨pa1,pn1,pc1,pa2,pn2,pc2,pa3,pn3,pc3,pa4,pn4,pc4,pa5,pn5,pc5,rfl,hd9,hx9⟩;(try(refine Vfp (T:=(w9.cell? ⟨wr.heap.size,0,none⟩=some (.int .i64 0)∧w9.cell? ⟨wr.heap.size,1,none⟩=some (.slice none 0 0)∧w9.cell? ⟨wr.heap.size,2,none⟩=some (.slice none 0 0)∧w9.cell? ⟨wr.heap.size,3,none⟩=some (.slice none 0 0)∧w9.cell? ⟨wr.heap.size,4,none⟩=some (.slice none 0 0)∧w9.cell? ⟨wr.heap.size,5,none⟩=some (.int .i64 0)∧w9.cell? ⟨wr.heap.size,6,none⟩=some (.slice none 0 0))∧(w9.frozen? ⟨wr.heap.size,0,none⟩=false∧w9.frozen? ⟨wr.heap.size,1,none⟩=false∧w9.frozen? ⟨wr.heap.size,2,none⟩=false∧w9.frozen? ⟨wr.heap.size,3,none⟩=false∧w9.frozen? ⟨wr.heap.size,4,none⟩=false∧w9.frozen? ⟨wr.heap.size,5,none⟩=false∧w9.frozen? ⟨wr.heap.size,6,none⟩=false)∧(∀o,w9.frozen? ⟨wr.heap.size,o,none⟩=false)∧wr.heap.size<w9.heap.size) ?_ (fun nb=> ?_);(focus(refine Vhi hx9 ?_ ?_ ?_ ?_ ?_ ?_ ?_ ?_ (fun o=> ?_);(all_goals (first|(with_reducible assumption)|omega|(go_simp;done)|(simp;done)|(simp;omega;done)));done));obtain⟨⟨nb0,nb1,nb2,nb3,nb4,nb5,nb6⟩,⟨ng0,ng1,ng2,ng3,ng4,ng5,ng6⟩,nbf,nbz⟩:=nb));have HX9:=xY wr hx9;have HD9:=hH hd9;clear hd9 hx9)))
          all_goals (go_wp2_with fail;go_meet)
          all_goals
           refine⟨rfl,_,(.slice pa1 pn1 pc1),(.slice pa2 pn2 pc2),(.slice pa3 pn3 pc3),(.slice pa4 pn4 pc4),(.slice pa5 pn5 pc5),rfl,hH ?_,?_,hH ?_⟩
           ·refine⟨gS,gS,gS,gS,gS,gS,gS,fun o=> ?_,?_⟩
            ·first
              |(have hq:=nbf o;go_simp;done)
              |go_simp
            ·first
              |(have nq:=nbz;refine gDk.more (F:=fun k=>k≠wr.heap.size∧k≠db) (fun _ h _=>h.2) ?_;(repeat(with_reducible refine Vf4 ?_ hFw _));exact gDk.more (fun k hk _=>⟨(by have hk':_≤k:=hk;(try simp at hk');omega),(by have hk':_≤k:=hk;(try simp at hk');omega)⟩) HD9.o)
              |(refine gDk.ext (gDk.more (fun k hk _=>(by have hk':_≤k:=hk;(try simp at hk');omega)) HD9.o) ?_;exact Qac)
           ·have hq:=HX9.o.size
            (try simp at hq)
            omega
           ·have hq:=HX9.o;have hz9':=hq.size;exact Qac
         case rest=>
          clear HRU u0 u1 u2 u3 y0 y1 y2 y3 y4 y5 y6;obtain⟨rfl,ub,g1,g2,g3,g4,g5,rfl,HUU,hub,HX6⟩:=hcut;have hpt:=HUU.o.parts;obtain⟨ga1,gn1,gc1,rfl⟩:=hpt.1.slice;obtain⟨ga2,gn2,gc2,rfl⟩:=hpt.2.1.slice;obtain⟨ga3,gn3,gc3,rfl⟩:=hpt.2.2.1.slice;obtain⟨ga4,gn4,gc4,rfl⟩:=hpt.2.2.2.1.slice;obtain⟨ga5,gn5,gc5,rfl⟩:=hpt.2.2.2.2.slice;have HDF:=hH (HDE.o.ext HX6.o);have HRF:=hH (HRN.o.ext Qd6 HX6.o);have HPF:=hH (HPP.o.ext gNo HX6.o);have HXF:=hH (ext_trans HXE.o HX6.o);have hzr:rb<wr.heap.size:=World.block_lt_of_cell? _ _ q0;have q1:=(HX6.o.cells rb 0 hzr).trans q0;have hvw:V1.heap.size≤db:=hVw;have hdc:=HDF.o.lt;clear HDE HRN HPP HXE HX6 q0 hpt hdb hb hzr;by_cases q:er=0
          ·have t8:(er !=0)=false:=by simp[q]
           have HRY:=hH (HRX.o q);obtain⟨y0,y1,y2,y3,y4,y5,y6⟩:=HUU.o.seven;obtain⟨f0,f1,f2,f3,f4,f5,f6⟩:=HDF.o.fz7;obtain⟨x0,x1,x2,x3,x4,x5,x6⟩:=HDF.o.seven;clear q HRX;go_wp2_with fail
           go_roundw
           case rel=>
            have hFd:¬((fun k=>k≠db) db):=fun h=>h rfl
            exact⟨k+1,dU,_,_,_,_,_,hkl,by go_num,HRY,hH (HDF.o.ok.put HUU.o.rd hFd),hH (RSl.keep Qd6 (Vgt (F:=fun k=>k≠db) hFd _ _ _ _ _ _ _) HRF.o),hH (RSl.keep gNo (Vgt (F:=fun k=>k≠db) hFd _ _ _ _ _ _ _) HPF.o),hH (Vho HXF.o hvw _ _ _ _ _ _ _),gS⟩
           case measure=>simp[intOf];omega
          ·have t8:(er !=0)=true:=by simpa using q
           clear q HRX;go_wp2_with fail
           go_ret;exact⟨rfl,ext_trans HX.o (ext_trans HXF.o Qac)⟩
        ·obtain rfl:k=P.length:=oM;have HRZ:=hH (show Vd8 (Vam 4) (L.take (c+m))=some e by have h:=HRE.o;rw[List.take_length] at h;rw[HPT.o];exact h);clear HRE HPP hkl hk;go_wp2_with fail
         go_roundw
         case rel=>exact⟨c+m,e,_,_,_,_,_,oM,by go_num,HRZ,HDE,HRN,HXE,q0⟩
         case measure=>simp[intOf];omega
      ·have hcl:L.take c=L:=List.take_of_length_le oM;have HRA:=hH (show Vd8 (Vam 4) (L.take L.length)=some ed by have h:=HRE.o;rw[hcl] at h;rw[List.take_length];exact h);clear HRE hcl;obtain⟨V6,eV6⟩:∃W:World,W=wr:=⟨wr,rfl⟩;subst eV6;cases ab with
       |false=>
        go_wp2_with fail
        go_ret;exact⟨rfl,ext_trans HX.o (ext_trans HXE.o Qac)⟩
       |true=>
        obtain⟨l1,l2,l3,l4,l5⟩:=Vem HC.o.1 HC.o.2 (Nat.le_refl _) HRA.o (covB_iff.1 HAB.o);rw[List.take_length] at l4 l5;have HLW:=hH l3;have HLS:=hH l4;have HLD:=hH l5;have hzr:rb<V6.heap.size:=World.block_lt_of_cell? _ _ q0;have HLB:=hH (fun(W:World) (hx:Ext V6 W)=>(RSl.more gNo (G:=fun j=>j<V6.heap.size) (fun _ _ hk=>hk) (HRW.o V6 HXE.o)).ext gNo hx);have HFW:=hH (Ve5 HC.o.1);clear l1 l2 l3 l4 l5 HRA hc;go_wp2_with fail
        go_loopw [21,22] (fun ov iv wr=>∃(k:Nat) (q:List De),k≤L.length∧iv= .int .i64 k∧Hid (q=(L.take k).flatMap (·.deeds))∧Hid (OSl RDe 7 136 V6.heap.size (fun _=>True) wr ov q)∧Hid (Ext V6 wr)) (fun _ iv _=>L.length-(intOf iv).toNat)
        case atStart=>exact⟨0,[],Nat.zero_le _,rfl,hH rfl,hH Qbn,hH (ext_refl _)⟩
        case round=>
         obtain⟨k,q,hk,rfl,HQ,HO,HXQ⟩:=hrel;obtain⟨a6,n6,c6,rfl⟩:=Qab HO.o;obtain rfl:n6=q.length:=(Qa2 HO.o).1;have q2:=(HXQ.o.cells rb 0 hzr).trans q0;by_cases hlt:k<L.length
         ·obtain⟨b,o,d,a1,n1,c1,a2,n2,c2,ea,hb,ek,hd,u0,u1,u2,u3⟩:=Qdj (HLB.o wr HXQ.o) hlt;subst ea;have HDE:=hH ((Qit hd).2);have hdl:d.deeds.length≤1000000:=by have:=(checkN_right.1 ((checkLog_ok.1 HC.o.1).2 k d ek).1).few;omega
          have hql:q.length≤1000000:=by rw[HQ.o];have:=(HFW.o k).1;omega
          have HQ2:=hH (show q++d.deeds=(L.take (k+1)).flatMap (·.deeds) by rw[Vfx ek,HQ.o]);have HDL:=hH hdl;have HQL:=hH hql;have HOL:=hH (Qak HO.o);have HVS:=hH HXQ.o.size;generalize d.deeds=dd at *;obtain⟨i0,hi0,hz0,hz1',hz2⟩:=info_parts Qr6;have HJ:=hH hi0;have HZ0:=hH hz0;have HZ1:=hH hz1';have HZ2:=hH hz2;clear hi0 hz0 hz1' hz2 ek hd hdl hql u0 u1 u2;go_wp2_with (first|(at_builtin;go_must (refine Qaj gDe rfl (.tmp 146) (.tmp 152) 46 rfl V6.heap.size 136 i0 _ 7 96 Tryz.underlying46 HJ.o HZ0.o HZ1.o HZ2.o rfl oM (F:=fun _=>True) (G:=fun j=>j<V6.heap.size) (.slice a6 q.length c6) q rfl HO.o (.slice a2 n2 c2) dd rfl HDE.o Qwg (fun j hj _=>⟨trivial,fun e=>by have h1:=(HOL.o j e.symm).1;have hj':j<V6.heap.size:=hj;omega⟩) (Q9g HQL.o HDL.o) (Q9f HQL.o HDL.o) HVS.o ?_;intro v9 w9 hown9 hg9 hat9;obtain⟨a9,n9,k9,rfl⟩:=Qab hown9;have HO9:=hH hown9;have HX9:=hH (show Ext V6 w9 from Qao HXQ.o hg9 (fun j hj=>(HOL.o j hj).1));clear hown9 hg9 hat9)))
          go_roundw
          case rel=>exact⟨k+1,_,hlt,by go_num,HQ2,HO9,HX9⟩
          case measure=>simp[intOf];omega
         ·obtain rfl:k=L.length:=oM;have HQE:=hH (show q=L.flatMap (·.deeds) by have h:=HQ.o;rw[List.take_length] at h;exact h);have HCD:=hH (show∀x∈q,Qat x=0 by rw[HQ.o];exact(HFW.o L.length).2);have HXV:=hH (ext_trans HXE.o HXQ.o);have HDX:=hH (HDE.o.ext HXQ.o);have HRX:=hH (HRN.o.ext Qd6 HXQ.o);have HOR:=hH (Qaz gDe HO.o (G:=fun _=>True) (fun _ _ _=>trivial) (fun _ _=>trivial));have HDO:=hH (fun(W:World) (hx:Ext wr W)=>Qxb (Vgp (F:=fun _=>True) (w:=W)) (HOR.o.ext gDe hx) (checkS_fit.1 (show Qax ([],[])=0 by decide)) HCD.o);have h5:=HLD.o;rw[←HQE.o] at h5;rw[h5] at HDO;unfold Q70 at HDO;simp only at HDO;have hpt:=HDX.o.parts;obtain⟨za1,zn1,zc1,rfl⟩:=hpt.1.slice;obtain⟨za2,zn2,zc2,rfl⟩:=hpt.2.1.slice;obtain⟨za3,zn3,zc3,rfl⟩:=hpt.2.2.1.slice;obtain⟨za4,zn4,zc4,rfl⟩:=hpt.2.2.2.1.slice;obtain⟨za5,zn5,zc5,rfl⟩:=hpt.2.2.2.2.slice;obtain rfl:zn4=0:=by have h:=hpt.2.2.2.1.len.1;rw[HLW.o] at h;exact h
          have HSI:=hH (fun(W:World) (hx:Ext wr W)=>Qm3 (hpt.2.2.1.ext Qd6 hx) (HRX.o.ext Qd6 hx));rw[HLS.o,decide_eq_true (rfl:Vfr L=Vfr L)] at HSI;have HSA:=hH hpt.1;have HSG:=hH hpt.2.1;have HSS:=hH (fun(W:World) (hx:Ext wr W) (v u:Value) (hv:RSl RAt 3 (fun _=>True) W v ed.state.1) (hu:RSl RMk 2 (fun _=>True) W u ed.state.2)=>Qsv (s:=ed.state) ⟨_,_,rfl,HSA.o.ext gAt hx,HSG.o.ext gMk hx⟩ ⟨v,u,rfl,hv,hu⟩);obtain⟨y0,y1,y2,y3,y4,y5,y6⟩:=HDX.o.seven;have hdb:=HDX.o.lt;clear h5 hpt hlt hk HQ HO HXQ HDE HRN HRX HDX HLD HLS HLW;go_wp2_with (first|(go_at_call 53;go_must ((with_reducible refine(HDO.o _ Qac).mono ?_);rintro e w5 ⟨v5,u5,rfl,hv5,hu5,hx5⟩;obtain⟨sa1,sn1,sc1,rfl⟩:=hv5.slice;obtain⟨sa2,sn2,sc2,rfl⟩:=hu5.slice;obtain⟨y5_0,y5_1,y5_2,y5_3,y5_4,y5_5,y5_6⟩:=cC7 hx5 db (.int .i64 ed.site) (.slice za1 zn1 zc1) (.slice za2 zn2 zc2) (.slice za3 zn3 zc3) (.slice za4 0 zc4) (.int .i64 ed.clock) (.slice za5 zn5 zc5);have hz5:=hx5.size;(try simp at hz5);have hb5:=zL hx5 db;have HX5:=xY wr hx5;have HV5:=hH hv5;have HU5:=hH hu5;clear hv5 hu5 hx5))|(go_at_call 57;go_must ((with_reducible refine(HSI.o _ (ext_trans HX5.o Qac)).mono ?_);rintro e w6 ⟨rfl,hx6⟩;obtain⟨y6_0,y6_1,y6_2,y6_3,y6_4,y6_5,y6_6⟩:=cC7 hx6 db (.int .i64 ed.site) (.slice za1 zn1 zc1) (.slice za2 zn2 zc2) (.slice za3 zn3 zc3) (.slice za4 0 zc4) (.int .i64 ed.clock) (.slice za5 zn5 zc5);obtain⟨s6_0,s6_1⟩:=cC2 hx6 w5.heap.size (.slice sa1 sn1 sc1) (.slice sa2 sn2 sc2);have hz6:=hx6.size;(try simp at hz6);have hb6:=zL hx6 db;have HX6:=xX HX5 hx6;have HX56:=xY w5 hx6;clear hx6))|(go_at_call 56;go_must ((with_reducible refine(HSS.o _ (ext_trans HX6.o Qac) _ _ (HV5.o.ext gAt (ext_trans HX56.o Qac)) (HU5.o.ext gMk (ext_trans HX56.o Qac))).mono ?_);rintro e w7 ⟨rfl,hx7⟩;have HX7:=xX HX6 hx7;clear hx7)))
          go_ret;exact⟨rfl,ext_trans HX.o (ext_trans HXV.o (ext_trans HX7.o Qac))⟩
end Go.Proofs.YtgnccjojfebkeaaGreat
