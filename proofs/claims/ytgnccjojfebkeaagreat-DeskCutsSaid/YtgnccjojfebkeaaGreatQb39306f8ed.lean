/- Runs of atoms, by the document. -/
import Derived.Test.YtgnccjojfebkeaaGreatQed8dd0ae12
import Derived.Laws.IdiomStrings
import Derived.Deep.RegionHeldLaw
import Derived.Deep.RegionLaw
import Derived.Test.YtgnccjojfebkeaaGreatQa70fadfe36
set_option linter.unusedVariables false
set_option linter.unusedSimpArgs false
set_option maxRecDepth 100000
set_option maxHeartbeats 4000000
namespace Go.Proofs.YtgnccjojfebkeaaGreat
open Go Go.RowKit Go.BigFrame Cp
theorem Qq7 {l:List At} {k:Nat} {a:At} (h:l[k]?=some a):∃r,(Qct (l.take (k+1)))[(Qct (l.take (k+1))).length-1]?=some r∧Qar r.1 r.2.length=Qar a.1 1:=by
 rw[Qjc h];generalize Qct (l.take k)=q;have hnew:∃r,(q++[(a.1,[a.2])])[(q++[(a.1,[a.2])]).length-1]?=some r∧Qar r.1 r.2.length=Qar a.1 1:=⟨(a.1,[a.2]),sI,rfl⟩;by_cases hq:q=[]
 ·subst hq;exact hnew
 ·have hlt:q.length-1<q.length:=by have:=List.length_pos_iff.2 hq;omega
  have hr:=List.getElem?_eq_getElem hlt;cases hb:Qeh q[q.length-1] a with
  |true=>
   rw[Qgl hr hb];refine⟨((q[q.length-1]).1,(q[q.length-1]).2++[a.2]),?_,?_⟩
   ·rw[List.length_set,List.getElem?_set_self hlt]
   ·unfold Qeh at hb;rw[Bool.and_eq_true,beq_iff_eq] at hb;have he:=ordM_zero.1 hb.2;rw[←he,Qlv];simp
  |false=>rw[Qf6 hr hb];exact hnew
theorem Q7e {l:List At} {k:Nat} {a:At} (h:l[k]?=some a):(Qct (l.take (k+1))).length≠0:=by
 obtain⟨r,h1,_⟩:=Qq7 h;intro h0;rw[List.length_eq_zero_iff.1 h0] at h1;simp at h1
theorem Qz6 {r:Rn} {a:At} {m:Mk} (hl:r.2.length<60) (hi:Qar r.1 r.2.length=Qar m 1):(Qau a.1 (Qar m 1)==0)=Qeh r a:=by
 unfold Qeh;rw[decide_eq_true hl,Bool.true_and,←hi,Bool.eq_iff_iff,beq_iff_eq,beq_iff_eq,ordM_zero,ordM_zero];exact⟨fun h=>h.symm,fun h=>h.symm⟩
theorem Q27 {r:Rn} {a:At} (hl:¬r.2.length<60):Qeh r a=false:=by
 unfold Qeh;rw[decide_eq_false hl,Bool.false_and]
theorem Q3u {F:Nat→Prop} {W:World} {r:Nat} {v:Value} {p:List Stp} {c:Int} {s:ByteArray} {t:Tx} (h:RSl Qdt 2 F W v p) (i:I64 c) (hs:s.data.toList=t) (hz:s.size≤60) (z0:W.cell? ⟨r,0,none⟩=some v) (z1:W.cell? ⟨r,1,none⟩=some (.int .i64 c)) (z2:W.cell? ⟨r,2,none⟩=some (.string s))
  (hF:F r) (hr:r<W.heap.size):RSl RRn 3 F W (.slice (some ⟨r,0,none⟩) 1 1) [((p,c),t)]:=
 Qbe (Qfi z0 z1 z2) (Qbg (x:=((p,c),t)) rfl (Qh0 h i (hs▸Qss oM))) hF hr (Nat.le_refl _) mO
theorem Qvl (s:UInt8) (W:World) (b:Nat) (h:W.cell? ⟨b,0,none⟩=some (.int .u8 s.toNat)):
  (convert 157 9 (.slice (some ⟨b,0,none⟩) 1 1)).run Tryz.prog W= .ok (.string ⟨#[s]⟩) W:=
 run_convert_bytes_back W 157 9 5 ⟨b,0,none⟩ 1 [s] Tryz.underlying157 Tryz.underlying5 Tryz.underlying9 (fun j hj=>by
  have:j=0:=by simpa using hj
  subst this;exact h)
theorem Q6h {n m:Nat} (h:n≤300) (hm:m=1):n+m≤maxLen:=Nat.le_trans (by omega:n+m≤301) (by unfold maxLen;decide)
theorem Q6e {n m:Nat} (h:n≤300) (hm:m=1):(n+m) * 48≤140737488355328:=by subst hm;omega
theorem Q9o {n:Nat} (h:n≤300):IntKind.i64.wrap (n:Int)=n:=IntWalk.i64_in _ oM
theorem Qza {n:Nat} (h:n≤300):IntKind.i64.wrap ((n:Int)+1-1)=n:=by rw[Int.add_sub_cancel];exact Q9o h
theorem Qvu {eb:ByteArray} {s:UInt8} (h:eb=⟨#[s]⟩):eb.data.toList=[s]:=by subst h;rfl
theorem Qlr {m:Nat} (h:m≤300):wrap64 ((m:Int)+1+1)=((m+1+1:Nat):Int):=by rw[IntWalk.wrap64_in _ oM];rfl
theorem Qse {m n:Nat} (h:m+1<n):n-(intOf (.int .i64 ((m+1+1:Nat):Int))).toNat<n-(intOf (.int .i64 ((m+1:Nat):Int))).toNat:=by simp only[intOf,Int.toNat_natCast];omega
def Qve (l:List Rn) (w:World) (e:Ending) (w':World):Prop:=∃v,e= .returned v∧RSl RRn 3 (fun _=>True) w' v l∧Ext w w'
theorem Qz5 {F:Nat→Prop} {w:World} {v:Value} {l:List At} (h0:RSl RAt 3 F w v l) (hc:Qb0 l=0):
  Calls Tryz.prog 120 #[v] w (Qve (Qct l) w):=by
 have h:RSl RAt 3 (fun j=>j<w.heap.size) w v l:=RSl.more gAt (fun _ _ hk=>hk) h0;clear h0;have HOK:=hH (Qd4 hc);have hl3:=HOK.o.1;have HL:=hH (fun(W:World) (hx:Ext w W)=>h.ext gAt hx);obtain⟨a0,n0,c0,rfl⟩:=h.slice;obtain⟨rfl,_,_⟩:=h.len;obtain⟨i0,hi0,hz0,hz1',hz2⟩:=info_parts Qr7;have HJ:=hH hi0;have HZ0:=hH hz0;have HZ1:=hH hz1';have HZ2:=hH hz2;clear h hc hi0 hz0 hz1' hz2;go_enter Tryz.func120,Tryz.ntmps120;go_wp2
 go_loopw [3,4] (fun ov iv wr=>∃k:Nat,k≤l.length∧iv= .int .i64 k∧Hid (OSl RRn 3 134 w.heap.size (fun _=>True) wr ov (Qct (l.take k)))∧Hid (Qnx (Qct (l.take k)))∧Ext w wr) (fun _ iv _=>l.length-(intOf iv).toNat)
 case atStart=>exact⟨0,Nat.zero_le _,rfl,hH Qbn,hH (fun r hr=>by simp[Qct] at hr),ext_refl _⟩
 case round=>
  obtain⟨k,hk,rfl,HO,HR,hx⟩:=hrel;have hzr:=hx.size;have HX:=hH hx;clear hx;obtain⟨a5,n5,c5,rfl⟩:=Qab HO.o;by_cases hlt:k<l.length
  ·obtain⟨b,o,p,d,s,ap,cp,rfl,hb,ek,ick,hpp,y0,y1,y2⟩:=Qcd (HL.o wr HX.o) hlt;obtain⟨b',o',_,_,_,_,_,eb',hb0,_⟩:=Qcd (HL.o w (ext_refl _)) hlt;obtain⟨rfl,rfl⟩:b=b'∧o=o':=by simp at eb';exact eb'
   clear eb';have g0:=(HX.o.cells b _ hb0).symm.trans y0;have g1:=(HX.o.cells b _ hb0).symm.trans y1;have g2:=(HX.o.cells b _ hb0).symm.trans y2;have hat:=HOK.o.2.2 _ (List.mem_of_getElem? ek);have HS:=hH (Qjc ek);have HRN:=hH (show Qnx (Qct (l.take (k+1))) by rw[HS.o];exact Qph HR.o hat.1);have hql:=Qiu l k;have HPP:=hH (fun(W:World) (hx:Ext wr W)=>(hpp.ext Qap hx));have HIC:=hH ick;obtain⟨eb,heb⟩:∃eb:ByteArray,eb=⟨#[s]⟩:=⟨_,rfl⟩;have hcv:=Qvl s;rw[←heb] at hcv;have HEB:=hH heb;have hebs:eb.size=1:=by rw[heb];rfl
   clear heb;have HOL:=hH (Qak HO.o);by_cases hk0:k=0
   ·subst hk0;have HQ:Qct (l.take 0)=[]:=rfl;rw[HQ] at HO HS HR;rw[Qpg] at HS;obtain rfl:n5=0:=(Qa2 HO.o).1;clear ek hpp ick hat HR HQ hql;have t0:decide (0<((0:Nat):Int))=false:=rfl;simp only[Nat.zero_mul,Nat.add_zero] at y0 y1 y2 g0 g1 g2;go_wp2_with fail
    refine Qad (fun W2 eW2=> ?_);have e0:=rL eW2 ⟨b,o,none⟩ (.slice ap p.length cp);have e1:=rL eW2 ⟨b,o+1,none⟩ (.int .i64 d);have e2:=rL eW2 ⟨b,o+2,none⟩ (.int .u8 s.toNat);have zW2_0:=zE eW2 b;have hw2:=xE wr eW2;clear eW2;refine Qaa fol kR (fun hlater=> ?_);repeat(go_big_quiet_step ((fail)))
    refine wpQuiet_nil ?_;rintro w3 ⟨⟨w3x,hx3⟩,rfl⟩;clear hlater;have fz0:=(hx3.cells b (o) oM).trans e0;have fz1:=(hx3.cells b (o+1) oM).trans e1;have fz2:=(hx3.cells b (o+2) oM).trans e2;have hz3:=hx3.size;have hw3:Ext wr w3:=ext_trans hw2 hx3;have hz3w:=hw3.size;have hb3:b<w3.heap.size:=oM;go_wp2_with fail
    go_region_held_law (fun W=>W.cell? ⟨b,o,none⟩=some (.slice ap p.length cp)∧W.cell? ⟨b,o+1,none⟩=some (.int .i64 d)∧W.cell? ⟨b,o+2,none⟩=some (.int .u8 s.toNat))
     (first|go_keep|(refine⟨?_,?_,?_⟩<;>(rw[hx9.cells _ _ hb0];assumption)))
     (((refine Qa7 gRn (by rfl) (.tmp 57) (.tmp 71) 184 (by rfl) w.heap.size 134 i0 _ 3 48 Tryz.underlying184 HJ.o HZ0.o HZ1.o HZ2.o (by rfl) oM (F:=fun _=>True) (G:=fun j=>j<w.heap.size∨wr.heap.size≤j) (.slice a5 0 c5) [] (by rfl) (Qai gRn HO.o (ext_trans hw3 Qac)) (.slice (some ⟨w3.heap.size+1,0,none⟩) 1 1) [((p,d),[s])] (by rfl) (Q3u (RSl.more Qap (fun j hj _=>Or.inl hj) (HPP.o _ (ext_trans hw3 Qac))) HIC.o (Qvu HEB.o) oM gS gS gS (Or.inr oM) sI) Qqy (fun j hj _=>⟨trivial,fun e=>by have:=HOL.o j e.symm;rcases hj with h|h<;>omega⟩) (Q6h sI rfl) (Q6e sI rfl) sP ?_);intro v9 w9 hown9 hg9 hat9;have hx9:Ext w w9:=Qao (ext_trans HX.o (ext_trans hw3 Qac)) hg9 (fun j hj=>(HOL.o j hj).1)))
    all_goals
     go_wp2_with fail
     go_roundw
     case rel=>exact⟨0+1,oM,by go_num,hH (by rw[HS.o];exact hown9),HRN,hx9⟩
     case measure=>simp[intOf];omega
   ·obtain⟨m,rfl⟩:∃m,k=m+1:=⟨k-1,oM⟩;obtain⟨b2,o2,pm,dm,sm,am,cm,eb2,hb2,em,icm,hpm,x0,x1,_⟩:=Qcd (HL.o wr HX.o) (show m<l.length by omega);obtain⟨rfl,rfl⟩:b=b2∧o=o2:=by simp at eb2;exact eb2
    have hatm:=HOK.o.2.2 _ (List.mem_of_getElem? em);obtain⟨r0,hr0,hr1⟩:=Qq7 em;have hne:=Q7e em;have HAF:=hH (fun(W:World) (hx:Ext wr W)=>Qfp (k:=1) (Qam (hpm.ext Qap hx) icm) (Qcn hatm.1) (Qew hatm.1) (Qc6 hatm.1) (Qbu hatm.1) ⟨oM,oM⟩);clear hatm hpm icm em;generalize hqq:Qct (l.take (m+1))=q at *;clear hqq;obtain⟨n,hn⟩:∃n,q.length=n+1:=⟨q.length-1,oM⟩;obtain rfl:n5=n+1:=(Qa2 HO.o).1.trans hn;obtain⟨g5,p5,d5,s5,ap5,cp5,e5,hb5,hs5,ex5,hsx5,ix5,hpx5,v0,v1,v2,vf⟩:=Qsk HO.o (i:=n) oM;subst e5;have hro:=HR.o _ (List.mem_of_getElem? ex5);have hs560:s5.size≤60:=by simpa using hro.2.1
    have ex5':q[q.length-1]?=some ((p5,d5),s5.data.toList):=by rw[hn];exact ex5
    obtain rfl:r0=((p5,d5),s5.data.toList):=by rw[ex5'] at hr0;exact(Option.some.inj hr0).symm
    have hn3:n≤300:=oM;have hq300:q.length≤300:=oM;have hm3:m≤300:=oM;have hwn:wrap64 (n:Int)=(n:Int):=IntWalk.wrap64_in _ oM;have hwm:wrap64 (m:Int)=(m:Int):=IntWalk.wrap64_in _ oM;have t0:decide (0<((m+1:Nat):Int))=true:=decide_eq_true (Int.natCast_pos.2 (Nat.succ_pos _));have t0b:decide (0<(m:Int)+1)=true:=decide_eq_true (Int.lt_add_one_iff.2 (Int.natCast_nonneg m));have t2:decide ((m:Int)+1<(l.length:Int))=true:=decide_eq_true (by exact_mod_cast hlt);have t2b:decide (m+1<l.length)=true:=decide_eq_true hlt;have HN:=hH hn;have hsl5:s5.data.toList.length=s5.size:=sI;by_cases h60:s5.size<60
    ·have t1:decide ((s5.size:Int)<60)=true:=decide_eq_true (Int.ofNat_lt.2 h60);have t1b:decide (s5.size<60)=true:=decide_eq_true h60;have hSJ:=Qz6 (r:=((p5,d5),s5.data.toList)) (a:=((p,d),s)) (m:=(pm,dm)) (by simpa using h60) hr1;cases hjb:Qeh ((p5,d5),s5.data.toList) ((p,d),s) with
     |true=>
      rw[hjb] at hSJ;have HSM:=hH (fun(W:World) (ds:List Value) (G:Nat→Prop) (hd:RMk G W ds (Qar (pm,dm) 1)) (hx:Ext wr W)=>(show Calls _ _ _ W _ by have h9:=Qjd (Qam (hpp.ext Qap hx) ick) hd;rw[hSJ] at h9;exact h9));have HSJ:=hH (HS.o.trans (Qgl ex5' hjb));have HPT:=hH (fun(W:World) (hx:Ext wr W)=>Qnr (Qai gRn HO.o hx) (i:=n) oM ex5 HEB.o hs560);have hsum:¬9223372036854775807<s5.size+eb.size:=oM;clear ex5' ex5 hro hpx5 ix5 hsx5 hjb hn hql HS hr0 hr1 hne hpp ick hat ek hsl5 hSJ HR;go_wp2_with fail
      have iw1:=Q9o hn3;have iw2:=Qza hn3;have iw3:=Q9o hm3;have iw4:=Qza hm3;have nn0:(0:Int)≤(n:Int):=Int.natCast_nonneg n;have nn1:(n:Int)<(n:Int)+1:=Int.lt_succ _;have mm0:(0:Int)≤(m:Int):=Int.natCast_nonneg m;have mm1:(m:Int)<(l.length:Int):=Int.ofNat_lt.2 (Nat.lt_of_succ_lt hlt);have mm2:(0:Int)≤(m:Int)+1:=Int.le_add_one mm0;have mm3:(m:Int)+1<(l.length:Int):=by exact_mod_cast hlt
      go_region_held3 (fun W=>W.cell? ⟨b,o+(m+1) * 3,none⟩=some (.slice ap p.length cp)∧W.cell? ⟨b,o+(m+1) * 3+1,none⟩=some (.int .i64 d)∧W.cell? ⟨b,o+m * 3,none⟩=some (.slice am pm.length cm)∧W.cell? ⟨b,o+m * 3+1,none⟩=some (.int .i64 dm)∧W.cell? ⟨g5,n * 3+2,none⟩=some (.string s5))
       (first|go_keep|(refine⟨?_,?_,?_,?_,?_⟩<;>assumption)|(refine⟨?_,?_,?_,?_,?_⟩<;>(rw[hx7.cells _ _ ltA];first|(with_reducible assumption)|go_simp))|(refine⟨?_,?_,?_,?_,?_⟩<;>(rw[hx6.cells _ _ ltA];first|(with_reducible assumption)|go_simp)))
       (first
        |(go_at_call 179;go_must ((with_reducible refine(HAF.o _ Qac).mono ?_);rintro e w6 ⟨cs6,rfl,hm6,hx6⟩;have HM6:=hH (Qem hm6);obtain⟨v6,rfl,hv6,hi6⟩:=hm6;obtain⟨a6,n6,c6,rfl⟩:=Qab hv6;have hz6:=hx6.size;(try simp at hz6);have m0:=cL hx6 (b) (o+(m+1) * 3) (.slice ap p.length cp);have m1:=cL hx6 (b) (o+(m+1) * 3+1) (.int .i64 d);have m2:=cL hx6 (b) (o+(m+1) * 3+2) (.int .u8 s.toNat);have m3:=cL hx6 (g5) (n * 3+2) (.string s5);have m4:=cL hx6 (b) (o+m * 3) (.slice am pm.length cm);have m5:=cL hx6 (b) (o+m * 3+1) (.int .i64 dm);have mf0:=fL hx6 (g5) (n * 3+2);clear hv6 hi6))
        |(go_at_call 135;go_must ((with_reducible refine(HSM.o _ _ _ (gMk.ext HM6.o Qac) Qac).mono ?_);rintro e w7 ⟨rfl,hx7⟩;have hz7:=hx7.size;(try simp at hz7);have q0:=cL hx7 (b) (o+(m+1) * 3) (.slice ap p.length cp);have q1:=cL hx7 (b) (o+(m+1) * 3+1) (.int .i64 d);have q2:=cL hx7 (b) (o+(m+1) * 3+2) (.int .u8 s.toNat);have q3:=cL hx7 (g5) (n * 3+2) (.string s5);have q4:=cL hx7 (b) (o+m * 3) (.slice am pm.length cm);have q5:=cL hx7 (b) (o+m * 3+1) (.int .i64 dm);have qf0:=fL hx7 (g5) (n * 3+2))))
      go_wp2_with fail
      have hg7:g5<w7.heap.size:=oM;have hg7n:¬g5=w7.heap.size:=oM;have hg7m:¬w7.heap.size=g5:=oM;have hb7:b<w7.heap.size:=oM;have hb7n:¬b=w7.heap.size:=oM;have hbg:¬b=g5:=oM;have hgb:¬g5=b:=oM;clear hebs;go_region_law (fail)
      all_goals clear iw1 iw2 iw3 iw4
      all_goals go_wp2_with fail
      all_goals go_roundw
      all_goals have hw7r:Ext wr w7:=Qac
      all_goals have hw7:Ext w w7:=ext_trans HX.o hw7r
      all_goals rw[Qlr hm3]
      all_goals first
       |exact⟨m+1+1,Nat.succ_le_of_lt hlt,rfl,hH (Qai gRn (Qlc (HPT.o _ hw7r) (by rw[HSJ.o,HN.o];rfl)) (by repeat(first|exact ext_refl _|refine ext_drew ?_|refine ext_alloc ?_ _))),HRN,(by repeat(first|(with_reducible exact ext_refl _)|(with_reducible assumption)|(with_reducible refine ext_drew ?_)|(with_reducible refine ext_drewN ?_ _)|(with_reducible refine ext_alloc ?_ _)|(with_reducible refine ext_set ?_ (by first|assumption|omega) _)|(with_reducible refine ext_trans ?_ (by with_reducible assumption))))⟩
       |exact Qse hlt
     |false=>
      rw[hjb] at hSJ;have HSM:=hH (fun(W:World) (ds:List Value) (G:Nat→Prop) (hd:RMk G W ds (Qar (pm,dm) 1)) (hx:Ext wr W)=>(show Calls _ _ _ W _ by have h9:=Qjd (Qam (hpp.ext Qap hx) ick) hd;rw[hSJ] at h9;exact h9));have HSJ:=hH (HS.o.trans (Qf6 ex5' hjb));clear ex5' ex5 hro hpx5 ix5 hsx5 hjb hn hql HS hr0 hr1 hne hpp ick hat ek hsl5 hSJ HR;go_wp2_with fail
      have iw1:=Q9o hn3;have iw2:=Qza hn3;have iw3:=Q9o hm3;have iw4:=Qza hm3;have nn0:(0:Int)≤(n:Int):=Int.natCast_nonneg n;have nn1:(n:Int)<(n:Int)+1:=Int.lt_succ _;have mm0:(0:Int)≤(m:Int):=Int.natCast_nonneg m;have mm1:(m:Int)<(l.length:Int):=Int.ofNat_lt.2 (Nat.lt_of_succ_lt hlt);have mm2:(0:Int)≤(m:Int)+1:=Int.le_add_one mm0;have mm3:(m:Int)+1<(l.length:Int):=by exact_mod_cast hlt
      go_region_held3 (fun W=>W.cell? ⟨b,o+(m+1) * 3,none⟩=some (.slice ap p.length cp)∧W.cell? ⟨b,o+(m+1) * 3+1,none⟩=some (.int .i64 d)∧W.cell? ⟨b,o+m * 3,none⟩=some (.slice am pm.length cm)∧W.cell? ⟨b,o+m * 3+1,none⟩=some (.int .i64 dm)∧W.cell? ⟨g5,n * 3+2,none⟩=some (.string s5))
       (first|go_keep|(refine⟨?_,?_,?_,?_,?_⟩<;>assumption)|(refine⟨?_,?_,?_,?_,?_⟩<;>(rw[hx7.cells _ _ ltA];first|(with_reducible assumption)|go_simp))|(refine⟨?_,?_,?_,?_,?_⟩<;>(rw[hx6.cells _ _ ltA];first|(with_reducible assumption)|go_simp)))
       (first
        |(go_at_call 179;go_must ((with_reducible refine(HAF.o _ Qac).mono ?_);rintro e w6 ⟨cs6,rfl,hm6,hx6⟩;have HM6:=hH (Qem hm6);obtain⟨v6,rfl,hv6,hi6⟩:=hm6;obtain⟨a6,n6,c6,rfl⟩:=Qab hv6;have hz6:=hx6.size;(try simp at hz6);have m0:=cL hx6 (b) (o+(m+1) * 3) (.slice ap p.length cp);have m1:=cL hx6 (b) (o+(m+1) * 3+1) (.int .i64 d);have m2:=cL hx6 (b) (o+(m+1) * 3+2) (.int .u8 s.toNat);have m3:=cL hx6 (g5) (n * 3+2) (.string s5);have m4:=cL hx6 (b) (o+m * 3) (.slice am pm.length cm);have m5:=cL hx6 (b) (o+m * 3+1) (.int .i64 dm);have mf0:=fL hx6 (g5) (n * 3+2);clear hv6 hi6))
        |(go_at_call 135;go_must ((with_reducible refine(HSM.o _ _ _ (gMk.ext HM6.o Qac) Qac).mono ?_);rintro e w7 ⟨rfl,hx7⟩;have hz7:=hx7.size;(try simp at hz7);have q0:=cL hx7 (b) (o+(m+1) * 3) (.slice ap p.length cp);have q1:=cL hx7 (b) (o+(m+1) * 3+1) (.int .i64 d);have q2:=cL hx7 (b) (o+(m+1) * 3+2) (.int .u8 s.toNat);have q3:=cL hx7 (g5) (n * 3+2) (.string s5);have q4:=cL hx7 (b) (o+m * 3) (.slice am pm.length cm);have q5:=cL hx7 (b) (o+m * 3+1) (.int .i64 dm);have qf0:=fL hx7 (g5) (n * 3+2))))
      clear iw1 iw2 iw3 iw4;go_wp2_with fail
      refine Qad (fun w3 ew3=> ?_);have fz0:=rL ew3 ⟨b,o+(m+1) * 3,none⟩ (.slice ap p.length cp);have fz1:=rL ew3 ⟨b,o+(m+1) * 3+1,none⟩ (.int .i64 d);have fz2:=rL ew3 ⟨b,o+(m+1) * 3+2,none⟩ (.int .u8 s.toNat);have zw3_0:=zE ew3 b;have hw3:=xE wr ew3;clear ew3;have hz3w:=hw3.size;have hb3:b<w3.heap.size:=oM;clear hx6 hx7 HM6;go_region_held_law (fun W=>W.cell? ⟨b,o+(m+1) * 3,none⟩=some (.slice ap p.length cp)∧W.cell? ⟨b,o+(m+1) * 3+1,none⟩=some (.int .i64 d)∧W.cell? ⟨b,o+(m+1) * 3+2,none⟩=some (.int .u8 s.toNat))
       (first|go_keep|(refine⟨?_,?_,?_⟩<;>(rw[hx9.cells _ _ hb0];assumption)))
       (((refine Qa7 gRn (by rfl) (.tmp 57) (.tmp 71) 184 (by rfl) w.heap.size 134 i0 _ 3 48 Tryz.underlying184 HJ.o HZ0.o HZ1.o HZ2.o (by rfl) oM (F:=fun _=>True) (G:=fun j=>j<w.heap.size∨wr.heap.size≤j) (.slice (some ⟨g5,0,none⟩) (n+1) c5) q (by rfl) (Qai gRn HO.o (ext_trans hw3 Qac)) (.slice (some ⟨w3.heap.size+1,0,none⟩) 1 1) [((p,d),[s])] (by rfl) (Q3u (RSl.more Qap (fun j hj _=>Or.inl hj) (HPP.o _ (ext_trans hw3 Qac))) HIC.o (Qvu HEB.o) oM gS gS gS (Or.inr oM) sI) Qqy (fun j hj _=>⟨trivial,fun e=>by have:=HOL.o j e.symm;rcases hj with h|h<;>omega⟩) (Q6h hq300 rfl) (Q6e hq300 rfl) sP ?_);intro v9 w9 hown9 hg9 hat9;have hx9:Ext w w9:=Qao (ext_trans HX.o (ext_trans hw3 Qac)) hg9 (fun j hj=>(HOL.o j hj).1)))
      all_goals
       go_wp2_with fail
       go_roundw
       case rel=>rw[Qlr hm3];exact⟨m+1+1,Nat.succ_le_of_lt hlt,rfl,hH (by rw[HSJ.o];exact hown9),HRN,hx9⟩
       case measure=>rw[Qlr hm3];exact Qse hlt
    ·have t1:decide ((s5.size:Int)<60)=false:=decide_eq_false (fun h9=>h60 (Int.ofNat_lt.1 h9));have t1b:decide (s5.size<60)=false:=decide_eq_false h60;have HSJ:=hH (HS.o.trans (Qf6 ex5' (Q27 (r:=((p5,d5),s5.data.toList)) (a:=((p,d),s)) (by simpa using h60))));clear ex5' ex5 hro hpx5 ix5 hsx5 hn hql HS hr0 hr1 hne hpp ick hat ek hsl5 HR HAF h60;go_wp2_with fail
     have iw1:=Q9o hn3;have iw2:=Qza hn3;have iw3:=Q9o hm3;have iw4:=Qza hm3;have nn0:(0:Int)≤(n:Int):=Int.natCast_nonneg n;have nn1:(n:Int)<(n:Int)+1:=Int.lt_succ _;have mm0:(0:Int)≤(m:Int):=Int.natCast_nonneg m;have mm1:(m:Int)<(l.length:Int):=Int.ofNat_lt.2 (Nat.lt_of_succ_lt hlt);have mm2:(0:Int)≤(m:Int)+1:=Int.le_add_one mm0;have mm3:(m:Int)+1<(l.length:Int):=by exact_mod_cast hlt
     refine Qad (fun W2 eW2=> ?_);have e0:=rL eW2 ⟨b,o+(m+1) * 3,none⟩ (.slice ap p.length cp);have e1:=rL eW2 ⟨b,o+(m+1) * 3+1,none⟩ (.int .i64 d);have e2:=rL eW2 ⟨b,o+(m+1) * 3+2,none⟩ (.int .u8 s.toNat);have e3:=rL eW2 ⟨g5,n * 3+2,none⟩ (.string s5);have zW2_0:=zE eW2 b;have zW2_1:=zE eW2 g5;have hw2:=xE wr eW2;clear eW2;refine Qaa fol kR (fun hlater=> ?_);repeat(go_big_quiet_step ((fail)))
     refine wpQuiet_nil ?_;rintro w3 ⟨⟨w3x,hx3⟩,rfl⟩;clear hlater;have fz0:=(hx3.cells b (o+(m+1) * 3) oM).trans e0;have fz1:=(hx3.cells b (o+(m+1) * 3+1) oM).trans e1;have fz2:=(hx3.cells b (o+(m+1) * 3+2) oM).trans e2;have hz3:=hx3.size;have hw3:Ext wr w3:=ext_trans hw2 hx3;have hz3w:=hw3.size;have hb3:b<w3.heap.size:=oM;clear iw1 iw2 iw3 iw4;go_wp2_with fail
     go_region_held_law (fun W=>W.cell? ⟨b,o+(m+1) * 3,none⟩=some (.slice ap p.length cp)∧W.cell? ⟨b,o+(m+1) * 3+1,none⟩=some (.int .i64 d)∧W.cell? ⟨b,o+(m+1) * 3+2,none⟩=some (.int .u8 s.toNat))
      (first|go_keep|(refine⟨?_,?_,?_⟩<;>(rw[hx9.cells _ _ hb0];assumption)))
      (((refine Qa7 gRn (by rfl) (.tmp 57) (.tmp 71) 184 (by rfl) w.heap.size 134 i0 _ 3 48 Tryz.underlying184 HJ.o HZ0.o HZ1.o HZ2.o (by rfl) oM (F:=fun _=>True) (G:=fun j=>j<w.heap.size∨wr.heap.size≤j) (.slice (some ⟨g5,0,none⟩) (n+1) c5) q (by rfl) (Qai gRn HO.o (ext_trans hw3 Qac)) (.slice (some ⟨w3.heap.size+1,0,none⟩) 1 1) [((p,d),[s])] (by rfl) (Q3u (RSl.more Qap (fun j hj _=>Or.inl hj) (HPP.o _ (ext_trans hw3 Qac))) HIC.o (Qvu HEB.o) oM gS gS gS (Or.inr oM) sI) Qqy (fun j hj _=>⟨trivial,fun e=>by have:=HOL.o j e.symm;rcases hj with h|h<;>omega⟩) (Q6h hq300 rfl) (Q6e hq300 rfl) sP ?_);intro v9 w9 hown9 hg9 hat9;have hx9:Ext w w9:=Qao (ext_trans HX.o (ext_trans hw3 Qac)) hg9 (fun j hj=>(HOL.o j hj).1)))
     all_goals
      go_wp2_with fail
      go_roundw
      case rel=>rw[Qlr hm3];exact⟨m+1+1,Nat.succ_le_of_lt hlt,rfl,hH (by rw[HSJ.o];exact hown9),HRN,hx9⟩
      case measure=>rw[Qlr hm3];exact Qse hlt
  ·have hkl:k=l.length:=oM;subst hkl;have HF:=hH (show OSl RRn 3 134 w.heap.size (fun _=>True) wr (.slice a5 n5 c5) (Qct l) by have:=HO.o;rwa [List.take_of_length_le (Nat.le_refl _)] at this);go_wp2
   go_ret;exact⟨_,rfl,Qaz gRn HF.o (fun _ _ _=>trivial) (fun _ _=>trivial),HX.o⟩
theorem Q7d {F:Nat→Prop} {W:World} {r:Nat} {v:Value} {x:Rn} {s:ByteArray} (h:RSl Qdt 2 F W v x.1.1) (i:I64 x.1.2) (hs:x.2=s.data.toList) (hz:s.size≤140737488351232) (z0:W.cell? ⟨r,0,none⟩=some v) (z1:W.cell? ⟨r,1,none⟩=some (.int .i64 x.1.2)) (z2:W.cell? ⟨r,2,none⟩=some (.string s))
  (hF:F r) (hr:r<W.heap.size):RSl RRn 3 F W (.slice (some ⟨r,0,none⟩) 1 1) [x]:=
 Qbe (Qfi z0 z1 z2) (Qbg (x:=x) rfl ⟨_,_,rfl,h,i,hs▸Qss hz⟩) hF hr (Nat.le_refl _) mO
theorem Q20 {α β:Type} {l:List α} {k:Nat} {a:α} {f:α→β} (h:l[k]?=some a):(l.take (k+1)).map f=(l.take k).map f++[f a]:=by
 obtain⟨h1,h2⟩:=List.getElem?_eq_some_iff.1 h;rw[List.take_succ_eq_append_getElem h1,h2,List.map_append];rfl
theorem Qz4 {F:Nat→Prop} {w:World} {v:Value} {l:List De} (h:RSl RDe 7 F w v l) (hl:l.length≤300):
  Calls Tryz.prog 121 #[v] w (Qve (l.map (·.run)) w):=by
 have HL:=hH (show RSl RDe 7 (fun j=>j<w.heap.size) w v l from RSl.more gDe (fun _ _ hk=>hk) h);obtain⟨a,n,c,rfl⟩:=h.slice;obtain rfl:n=l.length:=h.len.1;obtain⟨i0,hi0,hz0,hz1',hz2⟩:=info_parts Qr7;have HJ:=hH hi0;have HZ0:=hH hz0;have HZ1:=hH hz1';have HZ2:=hH hz2;clear h hi0 hz0 hz1' hz2;go_enter Tryz.func121,Tryz.ntmps121;go_wp2
 go_loopw [3,4] (fun ov iv wr=>∃k:Nat,k≤l.length∧iv= .int .i64 k∧Hid (OSl RRn 3 134 w.heap.size (fun _=>True) wr ov ((l.take k).map (·.run)))∧Hid (Ext w wr)) (fun _ iv _=>l.length-(intOf iv).toNat)
 case atStart=>exact⟨0,Nat.zero_le _,rfl,hH Qbn,hH (ext_refl _)⟩
 case round=>
  obtain⟨k,hk,rfl,HO,HX⟩:=hrel;have HOL:=hH (Qak HO.o);obtain⟨a6,n6,c6,rfl⟩:=Qab HO.o;obtain rfl:n6=((l.take k).map (·.run)).length:=(Qa2 HO.o).1;have hml:((l.take k).map (·.run)).length=k:=by rw[List.length_map,List.length_take];omega
  have hsr:=HX.o.size;by_cases hlt:k<l.length
  ·obtain⟨b,o,d,b1,m1,e1,b2,m2,e2,s,rfl,hb,ek,hde,u0,u1,u2,u3,u4,u5,u6⟩:=Qfd HL.o hlt;have v1:=(HX.o.cells _ _ hb).trans u1;have v2:=(HX.o.cells _ _ hb).trans u2;have v3:=(HX.o.cells _ _ hb).trans u3;obtain⟨p1,x1,w1,he,_,k1,k2,k3,_,_,_⟩:=hde;injection he with he0 he
   injection he with he1 he
   injection he with he2 he
   injection he with he3 he
   subst he1;subst he3;obtain⟨s',hs1,hs2,hs3⟩:=Qby k3;obtain rfl:s=s':=by injection hs1
   have HK1:=hH (fun(W:World) (hx:Ext wr W)=>k1.ext Qap (ext_trans HX.o hx));have HK2:=hH k2;have HS2:=hH hs2;have hsn:=Q20 (f:=fun(d:De)=>d.run) ek;have hbr:b<wr.heap.size:=oM;rw[hml] at HO HOL ⊢;generalize (l.take k).map (·.run)=ms at *;clear ek k1 k2 k3 hs1 hs2 he he0 he2;go_wp2_with (first|(at_builtin;go_must (refine Qaj gRn rfl (.tmp 11) (.tmp 17) 184 rfl w.heap.size 134 i0 _ 3 48 Tryz.underlying184 HJ.o HZ0.o HZ1.o HZ2.o rfl oM (F:=fun _=>True) (G:=fun j=>j<w.heap.size∨j=wr.heap.size) (.slice a6 k c6) ms rfl (Qai gRn HO.o Qac) _ [d.run] rfl (Q7d (RSl.more Qap (fun j hj _=>Or.inl hj) (HK1.o _ Qac)) HK2.o HS2.o hs3 asG asG asG (Or.inr rfl) ltA) Qqy (fun j hj _=>⟨trivial,fun e=>by have:=HOL.o j e.symm;rcases hj with h|h<;>omega⟩) (Q6h oM rfl) (Q6e oM rfl) ltA ?_;intro v9 w9 hown9 hg9 hat9;obtain⟨a9,n9,c9,rfl⟩:=Qab hown9;have HX9:=hH (show Ext w w9 from Qao (ext_trans HX.o Qac) hg9 (fun j hj=>(HOL.o j hj).1));have HV9:=hH hown9)))
   go_roundw
   case rel=>exact⟨k+1,oM,by go_num,hH (by rw[hsn];exact HV9.o),HX9⟩
   case measure=>simp[intOf];omega
  ·obtain rfl:k=l.length:=oM;have HF:=hH (show OSl RRn 3 134 w.heap.size (fun _=>True) wr (.slice a6 l.length c6) (l.map (·.run)) by have:=HO.o;rw[hml] at this;rwa [List.take_of_length_le (Nat.le_refl _)] at this);go_wp2
   go_ret;exact⟨_,rfl,Qaz gRn HF.o (fun _ _ _=>trivial) (fun _ _=>trivial),HX.o⟩
end Go.Proofs.YtgnccjojfebkeaaGreat
