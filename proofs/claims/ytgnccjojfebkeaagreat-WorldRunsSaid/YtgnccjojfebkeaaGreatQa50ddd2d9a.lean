/- run.Of, by the program. -/
import Derived.Test.YtgnccjojfebkeaaGreatQed8dd0ae12
import Derived.Test.YtgnccjojfebkeaaGreatQb497ca1fba
import Derived.Test.YtgnccjojfebkeaaGreatQ463d8804a1
import Derived.Test.YtgnccjojfebkeaaGreatQ453a98ae2d
import Derived.Test.YtgnccjojfebkeaaGreatQa70fadfe36
set_option linter.unusedVariables false
set_option linter.unusedSimpArgs false
set_option maxRecDepth 100000
set_option maxHeartbeats 4000000
namespace Go.Proofs.YtgnccjojfebkeaaGreat
open Go Go.RowKit Go.BigFrame Cp
theorem Qup {F:Nat→Prop} {w:World} {v:Value} {l:List At} (h:RSl RAt 3 F w v l) (hc:Qb0 l=0):
  Calls Tryz.prog 212 #[v] w (Q8o (Qct l) w):=by
 have HOK:=hH (Qd4 hc);have hl3:=HOK.o.1;have HL:=hH (fun(W:World) (hx:Ext w W)=>h.ext gAt hx);obtain⟨a0,n0,c0,rfl⟩:=h.slice;obtain⟨rfl,_,_⟩:=h.len;obtain⟨i0,hi0,hz0,hz1',hz2⟩:=info_parts Qr7;have HJ:=hH hi0;have HZ0:=hH hz0;have HZ1:=hH hz1';have HZ2:=hH hz2;clear h hc hi0 hz0 hz1' hz2;go_enter Tryz.func212,Tryz.ntmps212;go_wp2
 go_loopw [3,9] (fun ov iv wr=>∃k:Nat,k≤l.length∧iv= .int .i64 k∧Hid (OSl RRn 3 134 w.heap.size (fun j=>w.heap.size≤j) wr ov (Qct (l.take k)))∧Hid (Qnx (Qct (l.take k)))∧Ext w wr) (fun _ iv _=>l.length-(intOf iv).toNat)
 case atStart=>exact⟨0,Nat.zero_le _,rfl,hH Qbn,hH (fun r hr=>by simp[Qct] at hr),ext_refl _⟩
 case round=>
  obtain⟨k,hk,rfl,HO,HR,hx⟩:=hrel;have hzr:=hx.size;have HX:=hH hx;clear hx;obtain⟨a5,n5,c5,rfl⟩:=Qab HO.o;by_cases hlt:k<l.length
  ·obtain⟨b,o,p,d,s,ap,cp,rfl,hb,ek,ick,hpp,y0,y1,y2⟩:=Qcd (HL.o wr HX.o) hlt;have hat:=HOK.o.2.2 _ (List.mem_of_getElem? ek);have HS:=hH (Qjc ek);have HRN:=hH (show Qnx (Qct (l.take (k+1))) by rw[HS.o];exact Qph HR.o hat.1);have hql:=Qiu l k;have HOW:=hH (fun(W:World) (hx:Ext wr W)=>Qmb (Qam (hpp.ext Qap hx) ick) (Qcn hat.1));have HAT:=hH (fun(W:World) (hx:Ext wr W)=>Qm2 (s:=s) (hpp.ext Qap hx) ick);have HIC:=hH ick;have hs127:s.toNat≤126:=by
    have h1:=hat.2;rw[Qyb] at h1;unfold inB at h1;simp at h1;omega
   obtain⟨eb,heb⟩:∃eb:ByteArray,eb=⟨#[s]⟩:=⟨_,rfl⟩;have henc:Utf8.encode ((s.toNat:Nat):Int)=eb:=by rw[heb];exact Qvx hs127
   have HEB:=hH heb;have hebs:eb.size≤1:=by rw[heb];exact Nat.le_refl 1
   clear heb;have hs32:32≤s.toNat:=by
    have h1:=hat.2;rw[Qyb] at h1;unfold inB at h1;simp at h1;omega
   have hn1:¬b=wr.heap.size:=oM;have hn2:¬wr.heap.size=b:=oM;have HOL:=hH (Qak HO.o);clear ek hpp ick hat;generalize hqq:Qct (l.take k)=q at *;clear hqq;by_cases hq0:q.length=0
   ·obtain rfl:q=[]:=List.length_eq_zero_iff.1 hq0;obtain rfl:n5=0:=(Qa2 HO.o).1;rw[Qpg] at HS;clear hq0 hql;go_wp2_with fail
    refine Qad (fun W2 eW2=> ?_);obtain⟨e0,e1,e2⟩:=rR3 eW2 wr.heap.size (.slice ap p.length cp) (.int .i64 d) (.int .u8 s.toNat);have zW2_0:=zE eW2 wr.heap.size;have hw2:=xE wr eW2;clear eW2;refine Qaa fol kR (fun hlater=> ?_);repeat(go_big_quiet_step ((fail)))
    refine wpQuiet_nil ?_;rintro w3 ⟨⟨w3x,hx3⟩,rfl⟩;clear hlater;have fz0:=(hx3.cells wr.heap.size 0 oM).trans e0;have fz1:=(hx3.cells wr.heap.size 1 oM).trans e1;have fz2:=(hx3.cells wr.heap.size 2 oM).trans e2;have hz3:=hx3.size;have hw3:Ext wr w3:=ext_trans hw2 hx3;have hb3:wr.heap.size<w3.heap.size:=oM;go_wp2_with (first
     |(go_at_call 194;go_must ((with_reducible refine(HOW.o _ (ext_trans hw3 Qac)).mono ?_);rintro e w4 ⟨cs4,rfl,hm4,hx4⟩;have HM4:=hH (Qem hm4);obtain⟨v4,rfl,hv4,_⟩:=hm4;obtain⟨a4,n4,c4,rfl⟩:=Qab hv4;have hz4:=hx4.size;obtain⟨m0,m1,m2⟩:=cC3 hx4 (wr.heap.size) (.slice ap p.length cp) (.int .i64 d) (.int .u8 s.toNat);have hb4:wr.heap.size<w4.heap.size:=oM;clear hv4))
     |(at_builtin;go_must (refine Qds gRn rfl (.tmp 27) (.tmp 32) 184 rfl w.heap.size 134 i0 _ 3 48 Tryz.underlying184 HJ.o HZ0.o HZ1.o HZ2.o rfl oM (F:=fun j=>w.heap.size≤j) (G:=fun j=>w3.heap.size≤j) (.slice a5 0 c5) [] rfl (Qai gRn HO.o (ext_trans hw3 Qac)) w4.heap.size 0 1 [.slice a4 n4 c4,.int .i64 d,.string ⟨#[]⟩] ((p,d),[]) rfl rfl (Qfi gS gS gS) (Qqy _ w4 _ ((p,d),[]) (Qh0 ((Qjb HM4.o)) HIC.o ⟨rfl,sI⟩)) (Qh0 ((Qjb HM4.o).ext Qap (ext_alloc (ext_refl _) _)) HIC.o ⟨rfl,sI⟩) (fun j hj _=>⟨(show w.heap.size≤j by omega),fun e=>by have:=(HOL.o j e.symm).2;omega⟩) (by simp only[maxLen,List.length_nil];omega) (by simp only[List.length_nil];omega) sP ?_;intro v9 w9 hown9 hg9 hat9;obtain⟨a9,n9,c9,rfl⟩:=Qab hown9)))
    obtain⟨g9,px,dx,sx,apx,cpx,ea9,hb9,hs9,ex9,hsx,ix9,hpx,v0',v1',v2',vf'⟩:=Qsk hown9 (i:=0) sI;subst ea9;obtain rfl:n9=1:=(Qa2 hown9).1;have hxe:((p,d),[])=((px,dx),sx.data.toList):=by simpa using ex9
    have hsx0:sx.data.toList=[]:=Q8i hxe;have hsxs:sx.size=0:=by have h7:sx.data.toList.length=0:=(by rw[hsx0];rfl);simpa using h7
    simp only[Nat.zero_mul,Nat.zero_add] at v0' v1' v2' vf';have hx9:Ext w w9:=Qao (ext_alloc (ext_trans HX.o (ext_trans hw3 hx4)) _) hg9 (fun j hj=>(HOL.o j hj).1);have u0':=(World.cell?_of_block (a:=⟨wr.heap.size,0,none⟩) (hg9.block wr.heap.size sP (fun e=>by have:=(HOL.o _ e.symm).2;omega))).trans (show _=some (.slice ap p.length cp) by go_simp);have u1':=(World.cell?_of_block (a:=⟨wr.heap.size,1,none⟩) (hg9.block wr.heap.size sP (fun e=>by have:=(HOL.o _ e.symm).2;omega))).trans (show _=some (.int .i64 d) by go_simp);have u2':=(World.cell?_of_block (a:=⟨wr.heap.size,2,none⟩) (hg9.block wr.heap.size sP (fun e=>by have:=(HOL.o _ e.symm).2;omega))).trans (show _=some (.int .u8 s.toNat) by go_simp);have hng:¬g9=wr.heap.size:=by
     intro e;rcases hat9 with h|h
     ·have:=(HOL.o g9 (h.symm.trans rfl)).2;omega
     ·have h':some g9=some (w4.heap.size+1):=by simpa [Value.ownBlock] using h
      injection h' with h'
      omega
    have hng':¬wr.heap.size=g9:=fun e=>hng e.symm
    have hsum:¬9223372036854775807<sx.size+eb.size:=oM;have HX9:=hH hx9;have HPT:=hH (Qnr hown9 (i:=0) sI ex9 HEB.o oM);have HXE:=hH hxe;clear ex9 hg9 hown9 hat9 hpx hx9 hxe hsx0 hsxs;refine Qa4 11 fol kR (fun W hW=> ?_);subst hW;simp only[List.take_succ_cons,List.take_zero,List.drop_succ_cons,List.drop_zero];repeat(go_big_quiet_step (fail))
    refine wpQuiet_nil ?_;go_wp2_with fail
    go_roundw
    case rel=>exact⟨k+1,oM,by go_num,hH (Qai gRn (Qlc HPT.o (by rw[HS.o];exact Q8s HXE.o)) (ext_drew (ext_refl _))),HRN,ext_drew (ext_set HX9.o (show w.heap.size≤g9 by omega) _)⟩
    case measure=>simp[intOf];omega
   ·obtain⟨n,hn⟩:∃n,q.length=n+1:=⟨q.length-1,oM⟩;obtain rfl:n5=n+1:=(Qa2 HO.o).1.trans hn;obtain⟨g5,p5,d5,s5,ap5,cp5,e5,hb5,hs5,ex5,hsx5,ix5,hpx5,v0,v1,v2,vf⟩:=Qsk HO.o (i:=n) oM;subst e5;have hro:=HR.o _ (List.mem_of_getElem? ex5);have hs560:s5.size≤60:=by simpa using hro.2.1
    have HJN:=hH (fun(W:World) (hx:Ext wr W)=>Q2s (Qh0 (hpx5.ext Qap hx) ix5 (Qss hsx5)) (HAT.o W hx) hro.1);have ex5':q[q.length-1]?=some ((p5,d5),s5.data.toList):=by rw[hn];exact ex5
    have hg5:¬g5=wr.heap.size:=oM;have hn3:n≤300:=oM;have hq300:q.length≤300:=oM;have hwn:wrap64 (n:Int)=(n:Int):=IntWalk.wrap64_in _ oM;have hwn1:wrap64 ((n:Int)+1)=(n:Int)+1:=Qu2 hn3;have hnn:¬(n:Int)<0:=Int.not_lt.2 (Int.natCast_nonneg n);have t0:decide ((n:Int)<0)=false:=decide_eq_false hnn;have t0b:decide (0≤(n:Int))=true:=decide_eq_true (Int.natCast_nonneg n);have hg5':¬wr.heap.size=g5:=oM;cases hjb:Qeh ((p5,d5),s5.data.toList) ((p,d),s) with
    |true=>
     rw[hjb] at HJN;have HSJ:=hH (HS.o.trans (Qgl ex5' hjb));have hsum:¬9223372036854775807<s5.size+eb.size:=oM;have HPT:=hH (fun(W:World) (hx:Ext wr W)=>Qnr (Qai gRn HO.o hx) (i:=n) oM ex5 HEB.o hs560);have HN:=hH hn;clear ex5' ex5 hro hpx5 ix5 hsx5 hjb hq0 hn hql HS;go_wp2_with fail
     refine Qad (fun W2 eW2=> ?_);obtain⟨e0,e1,e2⟩:=rR3 eW2 wr.heap.size (.slice ap p.length cp) (.int .i64 d) (.int .u8 s.toNat);have e3:=rL eW2 ⟨g5,n * 3,none⟩ (.slice ap5 p5.length cp5);have e4:=rL eW2 ⟨g5,n * 3+1,none⟩ (.int .i64 d5);have e5:=rL eW2 ⟨g5,n * 3+2,none⟩ (.string s5);have ef5:W2.frozen? ⟨g5,n * 3+2,none⟩=false:=by rw[eW2];go_simp
     have zW2_0:=zE eW2 wr.heap.size;have zW2_1:=zE eW2 g5;have hw2:=xE wr eW2;clear eW2;refine Qaa fol kR (fun hlater=> ?_);repeat(go_big_quiet_step ((first
       |(go_at_call 234;(with_reducible exact Qah (HJN.o _ (ext_trans hw2 (Later.ext _))))))))
     refine wpQuiet_nil ?_;rintro w3 ⟨⟨w3x,hx3⟩,rfl⟩;clear hlater;have fz0:=(hx3.cells wr.heap.size 0 oM).trans e0;have fz1:=(hx3.cells wr.heap.size 1 oM).trans e1;have fz2:=(hx3.cells wr.heap.size 2 oM).trans e2;have fy0:=(hx3.cells g5 (n * 3) oM).trans e3;have fy1:=(hx3.cells g5 (n * 3+1) oM).trans e4;have fy2:=(hx3.cells g5 (n * 3+2) oM).trans e5;have fyf:=(hx3.frz g5 (n * 3+2) oM).trans ef5;have hz3:=hx3.size;have hw3:Ext wr w3:=ext_trans hw2 hx3;have hb3:wr.heap.size<w3.heap.size:=oM;have hg3:g5<w3.heap.size:=oM;go_wp2_with fail
     refine Qa4 11 fol kR (fun W hW=> ?_);subst hW;simp only[List.take_succ_cons,List.take_zero,List.drop_succ_cons,List.drop_zero];repeat(go_big_quiet_step (fail))
     refine wpQuiet_nil ?_;go_wp2_with fail
     go_roundw
     case rel=>exact⟨k+1,oM,by go_num,hH (Qai gRn (Qlc (HPT.o _ hw3) (by rw[HSJ.o,HN.o];rfl)) (ext_drew (ext_refl _))),HRN,ext_drew (ext_set (ext_trans HX.o hw3) sO _)⟩
     case measure=>simp[intOf];omega
    |false=>
     rw[hjb] at HJN;have HSJ:=hH (HS.o.trans (Qf6 ex5' hjb));have HN:=hH hn;clear ex5' ex5 hro hpx5 ix5 hsx5 hjb hq0 hql HS;go_wp2_with fail
     refine Qad (fun W2 eW2=> ?_);obtain⟨e0,e1,e2⟩:=rR3 eW2 wr.heap.size (.slice ap p.length cp) (.int .i64 d) (.int .u8 s.toNat);have e3:=rL eW2 ⟨g5,n * 3,none⟩ (.slice ap5 p5.length cp5);have e4:=rL eW2 ⟨g5,n * 3+1,none⟩ (.int .i64 d5);have e5:=rL eW2 ⟨g5,n * 3+2,none⟩ (.string s5);have ef5:W2.frozen? ⟨g5,n * 3+2,none⟩=false:=by rw[eW2];go_simp
     have zW2_0:=zE eW2 wr.heap.size;have zW2_1:=zE eW2 g5;have hw2:=xE wr eW2;clear eW2;refine Qaa fol kR (fun hlater=> ?_);repeat(go_big_quiet_step ((first
       |(go_at_call 234;(with_reducible exact Qah (HJN.o _ (ext_trans hw2 (Later.ext _))))))))
     refine wpQuiet_nil ?_;rintro w3 ⟨⟨w3x,hx3⟩,rfl⟩;clear hlater;have fz0:=(hx3.cells wr.heap.size 0 oM).trans e0;have fz1:=(hx3.cells wr.heap.size 1 oM).trans e1;have fz2:=(hx3.cells wr.heap.size 2 oM).trans e2;have fy0:=(hx3.cells g5 (n * 3) oM).trans e3;have fy1:=(hx3.cells g5 (n * 3+1) oM).trans e4;have fy2:=(hx3.cells g5 (n * 3+2) oM).trans e5;have fyf:=(hx3.frz g5 (n * 3+2) oM).trans ef5;have hz3:=hx3.size;have hw3:Ext wr w3:=ext_trans hw2 hx3;have hb3:wr.heap.size<w3.heap.size:=oM;have hg3:g5<w3.heap.size:=oM;go_wp2_with (first
      |(go_at_call 194;go_must ((with_reducible refine(HOW.o _ (ext_trans hw3 Qac)).mono ?_);rintro e w4 ⟨cs4,rfl,hm4,hx4⟩;have HM4:=hH (Qem hm4);obtain⟨v4,rfl,hv4,_⟩:=hm4;obtain⟨a4,n4,c4,rfl⟩:=Qab hv4;have hz4:=hx4.size;obtain⟨m0,m1,m2⟩:=cC3 hx4 (wr.heap.size) (.slice ap p.length cp) (.int .i64 d) (.int .u8 s.toNat);have hb4:wr.heap.size<w4.heap.size:=oM;clear hv4))
      |(at_builtin;go_must (refine Qds gRn rfl (.tmp 27) (.tmp 32) 184 rfl w.heap.size 134 i0 _ 3 48 Tryz.underlying184 HJ.o HZ0.o HZ1.o HZ2.o rfl oM (F:=fun j=>w.heap.size≤j) (G:=fun j=>w3.heap.size≤j) (.slice (some ⟨g5,0,none⟩) (n+1) c5) q rfl (Qai gRn HO.o (ext_trans hw3 Qac)) w4.heap.size 0 1 [.slice a4 n4 c4,.int .i64 d,.string ⟨#[]⟩] ((p,d),[]) rfl rfl (Qfi gS gS gS) (Qqy _ w4 _ ((p,d),[]) (Qh0 ((Qjb HM4.o)) HIC.o ⟨rfl,sI⟩)) (Qh0 ((Qjb HM4.o).ext Qap (ext_alloc (ext_refl _) _)) HIC.o ⟨rfl,sI⟩) (fun j hj _=>⟨(show w.heap.size≤j by omega),fun e=>by have:=(HOL.o j e.symm).2;omega⟩) (Vdc hq300) (Vdd hq300) sP ?_;intro v9 w9 hown9 hg9 hat9;obtain⟨a9,n9,c9,rfl⟩:=Qab hown9)))
     obtain⟨g9,px,dx,sx,apx,cpx,ea9,hb9,hs9,ex9,hsx,ix9,hpx,v0',v1',v2',vf'⟩:=Qsk hown9 (i:=n+1) (by rw[List.length_append,HN.o];exact Nat.lt_succ_self _);subst ea9;obtain rfl:n9=n+1+1:=by have:=(Qa2 hown9).1;simpa [HN.o] using this
     have hxe:((p,d),[])=((px,dx),sx.data.toList):=by have h8:=ex9;rw[←HN.o] at h8;simpa using h8
     have hsx0:sx.data.toList=[]:=Q8i hxe;have hsxs:sx.size=0:=by have h7:sx.data.toList.length=0:=(by rw[hsx0];rfl);simpa using h7
     have hx9:Ext w w9:=Qao (ext_alloc (ext_trans HX.o (ext_trans hw3 hx4)) _) hg9 (fun j hj=>(HOL.o j hj).1);have u0':=(World.cell?_of_block (a:=⟨wr.heap.size,0,none⟩) (hg9.block wr.heap.size sP (fun e=>by have:=(HOL.o _ e.symm).2;omega))).trans (show _=some (.slice ap p.length cp) by go_simp);have u1':=(World.cell?_of_block (a:=⟨wr.heap.size,1,none⟩) (hg9.block wr.heap.size sP (fun e=>by have:=(HOL.o _ e.symm).2;omega))).trans (show _=some (.int .i64 d) by go_simp);have u2':=(World.cell?_of_block (a:=⟨wr.heap.size,2,none⟩) (hg9.block wr.heap.size sP (fun e=>by have:=(HOL.o _ e.symm).2;omega))).trans (show _=some (.int .u8 s.toNat) by go_simp);have hng:¬g9=wr.heap.size:=by
      intro e;rcases hat9 with h|h
      ·have:=(HOL.o g9 (h.symm.trans rfl)).2;omega
      ·have h':some g9=some (w4.heap.size+1):=by simpa [Value.ownBlock] using h
       injection h' with h'
       omega
     have hng':¬wr.heap.size=g9:=fun e=>hng e.symm
     have hsum:¬9223372036854775807<sx.size+eb.size:=oM;have HX9:=hH hx9;have HPT:=hH (Qnr hown9 (i:=n+1) (by rw[List.length_append,HN.o];exact Nat.lt_succ_self _) ex9 HEB.o oM);have HXE:=hH hxe;clear ex9 hg9 hown9 hat9 hpx hx9 hxe hsx0 hsxs;obtain⟨n',hn'⟩:∃n':Nat,n'=n+1:=⟨_,rfl⟩;have hwq:wrap64 ((n:Int)+1)=(n':Int):=by rw[hn'];exact Qu2 hn3
     have HNQ:=hH (show n'=q.length from hn'.trans HN.o.symm);rw[hwq];simp only[←hn'] at v0' v1' v2' vf' HPT ⊢;have t0':decide ((n':Int)<0)=false:=decide_eq_false (Int.not_lt.2 (Int.natCast_nonneg _));have t0c:decide (0≤(n':Int))=true:=decide_eq_true (Int.natCast_nonneg _);have nn0:(0:Int)≤(n':Int):=Int.natCast_nonneg _;have nn1:(n':Int)<(n':Int)+1:=Int.lt_succ _;clear hn' hwq hwn hwn1 hnn t0 t0b;refine Qa4 11 fol kR (fun W hW=> ?_);subst hW;simp only[List.take_succ_cons,List.take_zero,List.drop_succ_cons,List.drop_zero];repeat(go_big_quiet_step (fail))
     refine wpQuiet_nil ?_;go_wp2_with fail
     go_roundw
     case rel=>exact⟨k+1,oM,by go_num,hH (Qai gRn (Qlc HPT.o (by rw[HSJ.o,HNQ.o];exact Va4 HXE.o)) (ext_drew (ext_refl _))),HRN,ext_drew (ext_set HX9.o (show w.heap.size≤g9 by omega) _)⟩
     case measure=>simp[intOf];omega
  ·have hkl:k=l.length:=oM;subst hkl;have HF:=hH (show OSl RRn 3 134 w.heap.size (fun j=>w.heap.size≤j) wr (.slice a5 n5 c5) (Qct l) by have:=HO.o;rwa [List.take_of_length_le (Nat.le_refl _)] at this);go_wp2
   go_ret;exact⟨_,rfl,Qaz gRn HF.o (fun j hj _=>hj) (fun j hj=>hj),HX.o⟩
end Go.Proofs.YtgnccjojfebkeaaGreat
namespace Go.Proofs.YtgnccjojfebkeaaGreat
open Go Go.RowKit Cp
def eqS (s t:Stp):Bool:=decide (s=t)
theorem Vbk:Tryz.prog.underlying 196=some (.struct (Tryz.prog.fieldsOf 196)):=kR
theorem Vbn:Tryz.prog.stoodInHeld 196=false:=kR
theorem Q8b:Tryz.prog.eqGuardType Tryz.prog.depth 196=false:=kR
theorem Q8d (x1 y1 x2 y2:Int) (w:World):(Op.equalIn 10000 196 (.agg #[.int .i64 x1,.int .i64 y1]) (.agg #[.int .i64 x2,.int .i64 y2])).run Tryz.prog w= .ok (eqS (x1,y1) (x2,y2)) w:=by
 have u3:=Tryz.underlying3;have a3:=Tryz.isAgg3;have z3:=Tryz.sizeOf3;rw[show(10000:Nat)=9999+1 from rfl,run_equalIn_agg w 9999 196 _ _ Vbk Vbn];simp only[Program.fieldsOf,Tryz.underlying196];go_simp
 by_cases h1:x1=x2<;>by_cases h2:y1=y2<;>simp[h1,h2,eqS]
theorem Q9l (x1 y1 x2 y2:Int) (w:World):(binOp .eql 196 (.agg #[.int .i64 x1,.int .i64 y1]) (.agg #[.int .i64 x2,.int .i64 y2])).run Tryz.prog w= .ok (.bool (eqS (x1,y1) (x2,y2))) w:=by
 rw[run_eql_struct,Q8d];rfl
theorem Q9u (x1 y1 x2 y2:Int) (w:World):(binOp .neq 196 (.agg #[.int .i64 x1,.int .i64 y1]) (.agg #[.int .i64 x2,.int .i64 y2])).run Tryz.prog w= .ok (.bool (!eqS (x1,y1) (x2,y2))) w:=by
 rw[run_neq_struct,Q8d];rfl
theorem Qvy {l m:List Stp} {k:Nat} {s t:Stp} (h1:l[k]?=some s) (h2:m[k]?=some t):decide (l.drop k=m.drop k)=(eqS s t && decide (l.drop (k+1)=m.drop (k+1))):=by
 obtain⟨a1,b1⟩:=List.getElem?_eq_some_iff.1 h1;obtain⟨a2,b2⟩:=List.getElem?_eq_some_iff.1 h2;rw[List.drop_eq_getElem_cons a1,List.drop_eq_getElem_cons a2,b1,b2];simp[Bool.decide_and,eqS]
theorem Qpu {F G:Nat→Prop} {w:World} {v u:Value} {l m:List Stp} (hl:RSl Qdt 2 F w v l) (hm:RSl Qdt 2 G w u m):
  Calls Tryz.prog 251 #[v,u] w fun e w'=>e= .returned (.bool (decide (l=m)))∧Ext w w':=by
 obtain⟨a1,n1,c1,rfl⟩:=hl.slice;obtain⟨a2,n2,c2,rfl⟩:=hm.slice;obtain⟨rfl,k1,k1'⟩:=hl.len;obtain⟨rfl,k2,k2'⟩:=hm.len;unfold maxLen at k1' k2';have q1:l.length≤9223372036854775807:=oM;have q2:m.length≤9223372036854775807:=oM;clear k1 k1' k2 k2';have HL:=hH hl;have HM:=hH hm;clear hl hm;have hg:=Q8b;have hneq:=Q9u;by_cases hlen:l.length=m.length
 ·have t0:((l.length:Int) !=(m.length:Int))=false:=by rw[hlen];simp
  have HLEN:=hH hlen;have hle:l.length≤m.length:=oM;clear hlen;go_enter Tryz.func251,Tryz.ntmps251;go_wp2
  go_loopw [13] (fun i wr=>∃k:Nat,k≤l.length∧i= .int .i64 k∧Hid (decide (l=m)=decide (l.drop k=m.drop k))∧Ext w wr) (fun i _=>l.length-(intOf i).toNat)
  case atStart=>exact⟨0,oM,rfl,hH sI,ext_refl _⟩
  case round=>
   obtain⟨k,hk1,rfl,ho,hx⟩:=hrel;have HX:=hH hx;clear hx;by_cases h1:k<l.length
   ·have h2:k<m.length:=oM;obtain⟨b1,o1,x1,y1,rfl,hb1,e1,_,_,ca,cb⟩:=Qfb (HL.o.ext Qap HX.o) h1;obtain⟨b2,o2,x2,y2,rfl,hb2,e2,_,_,cc,cd⟩:=Qfb (HM.o.ext Qap HX.o) h2;have HA:=hH (Qvy e1 e2);clear e1 e2 hb1 hb2;cases t1:eqS (x1,y1) (x2,y2) with
    |true=>
     have HB:=hH (show decide (l=m)=decide (l.drop (k+1)=m.drop (k+1)) by rw[ho.out,HA.o,t1,Bool.true_and]);go_wp2
     go_quiet (fail)
     go_wp2
     go_roundw
     case rel=>exact⟨k+1,oM,by go_num,HB,ext_drewN HX.o _⟩
     case measure=>simp[intOf];omega
    |false=>
     have HB:=hH (show decide (l=m)=false by rw[ho.out,HA.o,t1,Bool.false_and]);go_wp2
     go_quiet (fail)
     go_wp2
     go_ret;exact⟨rb HB.o.symm,ext_drewN HX.o _⟩
   ·have HB:=hH (show decide (l=m)=true by
     rw[ho.out,List.drop_eq_nil_of_le oM,List.drop_eq_nil_of_le (by have:=HLEN.o;omega)];simp)
    go_wp2
    go_ret;exact⟨rb HB.o.symm,HX.o⟩
 ·have t0:((l.length:Int) !=(m.length:Int))=true:=by rw[bne_iff_ne];omega
  have HB:=hH (show decide (l=m)=false from decide_eq_false (fun e=>hlen (by rw[e])));clear hlen;go_enter Tryz.func251,Tryz.ntmps251;go_wp2
  go_ret;exact⟨rb HB.o.symm,ext_refl _⟩
theorem Q50 (site:Int) (pre b:List Stp):Qfy site pre [] b=Qcg site pre b:=by cases b<;>rfl
theorem Q2b {site:Int} {a b:List Stp} {k:Nat} {s t:Stp} (h1:a[k]?=some s) (h2:b[k]?=some t):
  Qfy site (a.take k) (a.drop k) (b.drop k)=if s=t then Qfy site (a.take (k+1)) (a.drop (k+1)) (b.drop (k+1)) else if 1<t.1-s.1 then⟨a.take k,s.1+1,t.1-1⟩ else Qbo (a.take (k+1)) (a.drop (k+1)):=by
 obtain⟨a1,b1⟩:=List.getElem?_eq_some_iff.1 h1;obtain⟨a2,b2⟩:=List.getElem?_eq_some_iff.1 h2;rw[List.drop_eq_getElem_cons a1,List.drop_eq_getElem_cons a2,List.take_succ_eq_append_getElem a1,b1,b2];rfl
theorem Q4c {a b:List Stp} {k:Nat} {s t:Stp} (h1:a[k]?=some s) (h2:b[k]?=some t) (he:s=t) (h:a.take k=b.take k):a.take (k+1)=b.take (k+1):=by
 obtain⟨a1,b1⟩:=List.getElem?_eq_some_iff.1 h1;obtain⟨a2,b2⟩:=List.getElem?_eq_some_iff.1 h2;rw[List.take_succ_eq_append_getElem a1,List.take_succ_eq_append_getElem a2,b1,b2,h,he]
theorem Q6t {a b:List Stp} {k:Nat} (h:Qcq (a.drop k) (b.drop k)= -1) (_hk:k≤a.length):k<b.length:=by
 apply Classical.byContradiction
 intro hc;rw[List.drop_eq_nil_of_le (show b.length≤k by omega)] at h;cases hd:a.drop k with
 |nil=>rw[hd] at h;simp[Qcq] at h
 |cons x y=>rw[hd] at h;simp[Qcq] at h
theorem Qv0 {w W w1 w':World} {v:Value} {l:List Stp} (h:RSl Qdt 2 (fun k=>(k<w.heap.size∧k<W.heap.size)∨W.heap.size≤k) w1 v l) (hk:Keeps (fun k=>k≠w.heap.size) w1 w') (hs:w.heap.size<W.heap.size):
  RSl Qdt 2 (fun k=>k<w.heap.size∨w.heap.size≤k) w' v l:=
 RSl.more Qap (fun k _ _=>by omega) (RSl.keep Qap hk (RSl.more Qap (G:=fun k=>k≠w.heap.size) (fun k hk _=>by omega) h))
theorem Q5z {F G:Nat→Prop} {w:World} {v u:Value} {a b:List Stp} {site:Int} (ha:RSl Qdt 2 F w v a) (hb:RSl Qdt 2 G w u b)
  (hoa:∀s∈a,0≤s.1∧s.1≤200) (hob:∀s∈b,0≤s.1∧s.1≤200) (hlb:b≠[]→Qa6 b≠0) (ho:b≠[]→Qcq a b= -1) (hsz:b.length≤10000) (hsi:I64 site):
  Calls Tryz.prog 233 #[v,u,.int .i64 site] w (Q0p (fun k=>k<w.heap.size) (Qdp a b site) w):=by
 have HAB:=hH (fun(W:World) (hx:Ext w W) (k0:Nat) (hk:k0≤a.length)=>Q0w (F:=fun k=>k<w.heap.size) ((ha.more Qap (fun _ _ h=>h)).ext Qap hx) hk hoa);have HBL:=hH (fun(hne:b≠[]) (W:World) (hx:Ext w W) (k0:Nat) (hk:k0<b.length)=>Q1b (F:=fun k=>k<w.heap.size) (site:=site) ((hb.more Qap (fun _ _ h=>h)).ext Qap hx) hk hob (hlb hne) hsz hsi);obtain⟨a1,n1,c1,rfl⟩:=ha.slice;obtain⟨a2,n2,c2,rfl⟩:=hb.slice;obtain⟨rfl,k1,k1'⟩:=ha.len;obtain⟨rfl,k2,k2'⟩:=hb.len;unfold maxLen at k1' k2';have q1:a.length≤9223372036854775807:=oM;have q2:b.length≤9223372036854775807:=oM;have q3:c1≤9223372036854775807:=oM;have q4:c2≤9223372036854775807:=oM;clear k1' k2';have HA:=hH ha;have HB:=hH hb;have HOA:=hH hoa;have HOB:=hH hob;have HO:=hH ho;clear ha hb hoa hob ho hlb hsi;have hg:=Q8b;have heql:=Q9l;by_cases h0:b.length=0
 ·have t0:((b.length:Int)==0)=true:=by rw[beq_iff_eq];omega
  have hbn:b=[]:=by simpa using h0
  have HG:=hH (show Qdp a b site=Qbo (a.take 0) (a.drop 0) by unfold Qdp;rw[if_pos hbn];rfl);clear h0 hbn;go_enter Tryz.func233,Tryz.ntmps233;have HCA:Hid (∀W,Ext w W→Calls Tryz.prog 252 #[.slice a1 a.length c1,.int .i64 0] W (Q0p (fun k=>k<w.heap.size∧k<W.heap.size) (Qbo (a.take 0) (a.drop 0)) W)):=fun W hx=>HAB.o W hx 0 (Nat.zero_le _)
  go_wp2_with (go_at_call 252;((with_reducible refine(HCA.o _ (ext_alloc (ext_refl _) _)).mono ?_);rintro e w1 ⟨v1,rfl,hv1,hx1⟩;obtain⟨a3,n3,c3,rfl⟩:=hv1.slice;have HV1:=hH hv1;have hx2:=Qan (ext_refl _) hx1;clear hv1;(try clear r0 r1 r2 f0 f1 f2);obtain⟨r0,r1,r2⟩:=cC3 hx2 w.heap.size (.slice none 0 0) (.int .i64 0) (.int .i64 0);have f0:=fL hx2 w.heap.size 0;have f1:=fL hx2 w.heap.size 1;have f2:=fL hx2 w.heap.size 2;have HX2:=hH hx2;clear hx2 hx1))
  refine bodyPost_ret (v:= .agg #[.slice a3 n3 c3,.int .i64 (Qbo (a.take 0) (a.drop 0)).least,.int .i64 (Qbo (a.take 0) (a.drop 0)).most]) (by simp[results,Tryz.results233,go_sem,r0,r1,r2]) rfl ⟨.slice a3 n3 c3,by rw[HG.o],?_,(by repeat(first|(with_reducible exact ext_refl _)|(with_reducible refine ext_drew ?_)|(with_reducible refine ext_drewN ?_ _)|(with_reducible refine ext_alloc ?_ _)|(with_reducible refine ext_set ?_ ltA _)|(with_reducible refine Qan ?_ HX2.o)))⟩;rw[HG.o];exact Qv0 HV1.o (Qae (Qae (Qae Qag (fun _ h=>h rfl) _) (fun _ h=>h rfl) _) (fun _ h=>h rfl) _) sO
 have t0:((b.length:Int)==0)=false:=by rw[beq_eq_false_iff_ne];omega
 have hbn:b≠[]:=fun e=>h0 (by rw[e];rfl)
 have HG0:=hH (show Qdp a b site=Qfy site (a.take 0) (a.drop 0) (b.drop 0) by unfold Qdp;rw[if_neg hbn];rfl);have HORD:=hH (HO.o hbn);have HBN:=hH hbn;clear h0 hbn;go_enter Tryz.func233,Tryz.ntmps233;go_wp2
 go_loopw [7] (fun i wr=>∃k:Nat,k≤a.length∧k≤b.length∧i= .int .i64 k∧Hid (Qdp a b site=Qfy site (a.take k) (a.drop k) (b.drop k))∧Hid (Qcq (a.drop k) (b.drop k)= -1∧a.take k=b.take k)∧Ext (w.alloc (.cells #[.slice none 0 0,.int .i64 0,.int .i64 0] 280)) wr) (fun i _=>a.length-(intOf i).toNat)
 case atStart=>exact⟨0,oM,oM,rfl,HG0,⟨HORD.o,rfl⟩,ext_refl _⟩
 case round=>
  obtain⟨k,hk1,hk2,rfl,ho,hord,hx⟩:=hrel;have HW:=hH (ext_trans (ext_alloc (ext_refl _) _) hx);obtain⟨r0,r1,r2⟩:=cC3 hx w.heap.size (.slice none 0 0) (.int .i64 0) (.int .i64 0);have f0:=fL hx w.heap.size 0;have f1:=fL hx w.heap.size 1;have f2:=fL hx w.heap.size 2;have HX:=hH hx;have hsw:=hx.size;simp at hsw;clear hx;have hkb:=Q6t hord.out.1 hk1;by_cases h1:k<a.length
  ·obtain⟨b1,o1,x1,y1,rfl,hb1,e1,_,_,ca,cb⟩:=Qfb (RSl.ext Qap HA.o HW.o) h1;obtain⟨b2,o2,x2,y2,rfl,hb2,e2,_,_,cc,cd⟩:=Qfb (RSl.ext Qap HB.o HW.o) hkb;have HST:=hH (Q2b (site:=site) e1 e2);have HOS:=hH (Qgr e1 e2);have HTK:=hH (fun(he:(x1,y1)=(x2,y2)) (h:a.take k=b.take k)=>Q4c e1 e2 he h);obtain⟨d1,d2⟩:=HOA.o _ (List.mem_of_getElem? e1);obtain⟨d3,d4⟩:=HOB.o _ (List.mem_of_getElem? e2);simp only at d1 d2 d3 d4;clear e1 e2 hb1 hb2;cases t1:eqS (x1,y1) (x2,y2) with
   |true=>
    have he:(x1,y1)=(x2,y2):=of_decide_eq_true t1;have HE2:=hH (show Qdp a b site=Qfy site (a.take (k+1)) (a.drop (k+1)) (b.drop (k+1)) by rw[ho.out,HST.o,if_pos he]);have HE3:=hH (show Qcq (a.drop (k+1)) (b.drop (k+1))= -1 by
     have:=HOS.o;rw[hord.out.1,if_pos (ordS_zero.2 he)] at this;exact this.symm)
    have HE4:=hH (show a.take (k+1)=b.take (k+1) from HTK.o he hord.out.2);clear he;go_wp2
    go_quiet (fail)
    go_wp2
    go_roundw
    case rel=>exact⟨k+1,oM,oM,by go_num,HE2,⟨HE3.o,HE4.o⟩,ext_drewN HX.o _⟩
    case measure=>simp[intOf];omega
   |false=>
    have he:¬(x1,y1)=(x2,y2):=of_decide_eq_false t1;have HW1:=hH (show IntKind.i64.wrap (x2-x1)=x2-x1 from IntWalk.i64_in _ oM);have HW2:=hH (show IntKind.i64.wrap (x1+1)=x1+1 from IntWalk.i64_in _ oM);have HW3:=hH (show IntKind.i64.wrap (x2-1)=x2-1 from IntWalk.i64_in _ oM);have t2:((k:Int)==(a.length:Int))=false:=by rw[beq_eq_false_iff_ne];omega
    have kc:k≤c1:=oM;by_cases h2:1<x2-x1
    ·have HG:=hH (show Qdp a b site=⟨a.take k,x1+1,x2-1⟩ by rw[ho.out,HST.o,if_neg he,if_pos h2]);have t3:decide (1<x2-x1)=true:=decide_eq_true h2;clear he h2;go_wp2
     go_quiet (fail)
     go_wp2
     have hw1:=HW1.o;go_quiet (fail)
     clear hw1;go_wp2
     have hw2:=HW2.o;have hw3:=HW3.o;refine Qhb 16 fol kR ?_;simp only[List.take_succ_cons,List.take_zero,List.drop_succ_cons,List.drop_zero];repeat still_step
     refine wpStill_nil ?_;clear hw2 hw3;go_wp2
     refine bodyPost_ret (v:= .agg #[.slice (some ⟨b1,o1,none⟩) k c1,.int .i64 (x1+1),.int .i64 (x2-1)]) (by simp[results,Tryz.results233,go_sem,r0,r1,r2]) rfl ⟨.slice (some ⟨b1,o1,none⟩) k c1,by rw[HG.o],?_,(by repeat(first|(with_reducible exact ext_refl _)|(with_reducible refine ext_drew ?_)|(with_reducible refine ext_drewN ?_ _)|(with_reducible refine ext_alloc ?_ _)|(with_reducible refine ext_set ?_ ltA _)|(with_reducible refine Qan ?_ HW.o)))⟩;rw[HG.o];exact Qsr (RSl.more Qap (fun _ _ _=>by omega) (HA.o.ext Qap (by repeat(first|(with_reducible exact ext_refl _)|(with_reducible refine ext_drew ?_)|(with_reducible refine ext_drewN ?_ _)|(with_reducible refine ext_alloc ?_ _)|(with_reducible refine ext_set ?_ ltA _)|(with_reducible refine Qan ?_ HW.o))))) oM
    ·have HG:=hH (show Qdp a b site=Qbo (a.take (k+1)) (a.drop (k+1)) by rw[ho.out,HST.o,if_neg he,if_neg h2]);have t3:decide (1<x2-x1)=false:=decide_eq_false h2;have HCA:Hid (∀W,Ext w W→Calls Tryz.prog 252 #[.slice (some ⟨b1,o1,none⟩) a.length c1,.int .i64 ((k:Int)+1)] W (Q0p (fun k=>k<w.heap.size∧k<W.heap.size) (Qbo (a.take (k+1)) (a.drop (k+1))) W)):=fun W hx=>by
      have:=HAB.o W hx (k+1) oM
      rwa [show(((k+1:Nat):Int))=(k:Int)+1 by omega] at this
     clear he h2;go_wp2
     go_quiet (fail)
     go_wp2
     have hw1:=HW1.o;go_quiet (fail)
     clear hw1;go_wp2_with (go_at_call 252;((with_reducible refine(HCA.o _ (ext_drewN HW.o _)).mono ?_);rintro e w1 ⟨v1,rfl,hv1,hx1⟩;obtain⟨a3,n3,c3,rfl⟩:=hv1.slice;have HV1:=hH hv1;have hx2:=Qan (ext_drewN HX.o _) hx1;clear hv1;(try clear r0 r1 r2 f0 f1 f2);obtain⟨r0,r1,r2⟩:=cC3 hx2 w.heap.size (.slice none 0 0) (.int .i64 0) (.int .i64 0);have f0:=fL hx2 w.heap.size 0;have f1:=fL hx2 w.heap.size 1;have f2:=fL hx2 w.heap.size 2;have HX2:=hH hx2;clear hx2 hx1))
     refine bodyPost_ret (v:= .agg #[.slice a3 n3 c3,.int .i64 (Qbo (a.take (k+1)) (a.drop (k+1))).least,.int .i64 (Qbo (a.take (k+1)) (a.drop (k+1))).most]) (by simp[results,Tryz.results233,go_sem,r0,r1,r2]) rfl ⟨.slice a3 n3 c3,by rw[HG.o],?_,(by repeat(first|(with_reducible exact ext_refl _)|(with_reducible refine ext_drew ?_)|(with_reducible refine ext_drewN ?_ _)|(with_reducible refine ext_alloc ?_ _)|(with_reducible refine ext_set ?_ ltA _)|(with_reducible refine Qan ?_ HX2.o)))⟩;rw[HG.o];exact Qv0 HV1.o (Qae (Qae (Qae Qag (fun _ h=>h rfl) _) (fun _ h=>h rfl) _) (fun _ h=>h rfl) _) sO
  ·have hk:k=a.length:=oM;have HG:=hH (show Qdp a b site=Qcg site (b.take k) (b.drop k) by
    rw[ho.out,List.drop_eq_nil_of_le (show a.length≤k by omega),Q50,hord.out.2])
   have t2:((k:Int)==(a.length:Int))=true:=by rw[beq_iff_eq];omega
   have t3:decide ((k:Int)<(a.length:Int))=false:=decide_eq_false oM;clear hk;go_wp2
   go_quiet (fail)
   go_wp2_with (go_at_call 253;((with_reducible refine(HBL.o HBN.o _ (ext_drewN HW.o _) k hkb).mono ?_);rintro e w1 ⟨v1,rfl,hv1,hx1⟩;obtain⟨a3,n3,c3,rfl⟩:=hv1.slice;have HV1:=hH hv1;have hx2:=Qan (ext_drewN HX.o _) hx1;clear hv1;(try clear r0 r1 r2 f0 f1 f2);obtain⟨r0,r1,r2⟩:=cC3 hx2 w.heap.size (.slice none 0 0) (.int .i64 0) (.int .i64 0);have f0:=fL hx2 w.heap.size 0;have f1:=fL hx2 w.heap.size 1;have f2:=fL hx2 w.heap.size 2;have HX2:=hH hx2;clear hx2 hx1))
   refine bodyPost_ret (v:= .agg #[.slice a3 n3 c3,.int .i64 (Qcg site (b.take k) (b.drop k)).least,.int .i64 (Qcg site (b.take k) (b.drop k)).most]) (by simp[results,Tryz.results233,go_sem,r0,r1,r2]) rfl ⟨.slice a3 n3 c3,by rw[HG.o],?_,(by repeat(first|(with_reducible exact ext_refl _)|(with_reducible refine ext_drew ?_)|(with_reducible refine ext_drewN ?_ _)|(with_reducible refine ext_alloc ?_ _)|(with_reducible refine ext_set ?_ ltA _)|(with_reducible refine Qan ?_ HX2.o)))⟩;rw[HG.o];exact Qv0 HV1.o (Qae (Qae (Qae Qag (fun _ h=>h rfl) _) (fun _ h=>h rfl) _) (fun _ h=>h rfl) _) sO
theorem Q79 {x:Int} {n:Bool} {G:Prop} (h:(x !=0)=false∨(!n)=false) (hx:¬x=0) (k:n=true→G):G:=by
 rcases h with h|h
 ·exact absurd (by simpa using h) hx
 ·exact k (by simpa using h)
theorem Qoy {p:Prop} (h:p:=by
 go_enter Tryz.func232,Tryz.ntmps232
 iterate 4 (
  first
  |(refine wp_loop_rounds 3 ?_;rw[rounds_succ])
  |(all_goals try rw[rounds_succ])
  go_wp2_with (first
   |(go_at_call 190;((with_reducible refine(HNA.o _ Qac).mono ?_);rintro e w1 ⟨rfl,hx1⟩;have hc1:=hx1.cells;have hz1:=hx1.size;(try simp at hz1);obtain⟨hb1_0,hb1_1,hb1_2⟩:=zL3 hx1 w.heap.size))
   |(go_at_call 190;((with_reducible refine(HNB.o _ Qac).mono ?_);rintro e w1 ⟨rfl,hx1⟩;have hc1:=hx1.cells;have hz1:=hx1.size;(try simp at hz1);obtain⟨hb1_0,hb1_1,hb1_2⟩:=zL3 hx1 w.heap.size))
   |(go_at_call 191;((with_reducible refine(HCA.o _ Qac).mono ?_);rintro e w1 ⟨rfl,hx1⟩;have hc1:=hx1.cells;have hz1:=hx1.size;(try simp at hz1);obtain⟨hb1_0,hb1_1,hb1_2⟩:=zL3 hx1 w.heap.size))
   |(go_at_call 191;((with_reducible refine(HCB.o _ Qac).mono ?_);rintro e w1 ⟨rfl,hx1⟩;have hc1:=hx1.cells;have hz1:=hx1.size;(try simp at hz1);obtain⟨hb1_0,hb1_1,hb1_2⟩:=zL3 hx1 w.heap.size))
   |(go_at_call 220;((with_reducible refine(HOR.o _ Qac).mono ?_);rintro e w1 ⟨rfl,hx1⟩;have hc1:=hx1.cells;have hz1:=hx1.size;(try simp at hz1);obtain⟨hb1_0,hb1_1,hb1_2⟩:=zL3 hx1 w.heap.size))
   |(go_at_call 251;((with_reducible refine(HEQ.o _ Qac).mono ?_);rintro e w1 ⟨rfl,hx1⟩;have hc1:=hx1.cells;have hz1:=hx1.size;(try simp at hz1);obtain⟨hb1_0,hb1_1,hb1_2⟩:=zL3 hx1 w.heap.size))
   |(go_at_call 181;refine(Qhe _ _ _ _).mono ?_;rintro e w9 ⟨rfl,rfl⟩)
   |(go_at_call 128;refine(Qfj _ _).mono ?_;rintro e w9 ⟨rfl,rfl⟩)))
 all_goals go_ret
 all_goals refine⟨ri ?_,Qac⟩
 all_goals try(rw[bE];first|(simp[*];done)|(simp[*]<;>omega;done))
 all_goals try(refine Q79 (x:=Qaf (l,c)) (n:=Qbf (l,c)) ?_ ?_ (fun hA=> ?_);(· assumption);(· assumption))
 all_goals try(refine Q79 (x:=Qaf (m,d)) (n:=Qbf (m,d)) ?_ ?_ (fun hB=> ?_);(· assumption);(· assumption))
 all_goals try contradiction
 all_goals (rw[bE];first|(simp[*];done)|(simp[*]<;>omega))):p:=h
theorem Q52 {F G:Nat→Prop} {w:World} {cs ds:List Value} {a b:Mk} {site clock many:Int} (ha:RMk F w cs a) (hb:RMk G w ds b) (hc:I64 clock) (hm:I64 many):
  Calls Tryz.prog 232 #[.agg cs.toArray,.agg ds.toArray,.int .i64 site,.int .i64 clock,.int .i64 many] w fun e w'=>e= .returned (.int .i64 (Qa5 a b site clock many))∧Ext w w':=by
 have HNA:=hH (fun(W:World) (hx:Ext w W)=>Qk7 (gMk.ext ha hx));have HNB:=hH (fun(W:World) (hx:Ext w W)=>Qk7 (gMk.ext hb hx));have HCA:=hH (fun(W:World) (hx:Ext w W)=>Qe4 (gMk.ext ha hx));have HCB:=hH (fun(W:World) (hx:Ext w W)=>Qe4 (gMk.ext hb hx));have HOR:=hH (fun(W:World) (hx:Ext w W)=>Qf2 (gMk.ext ha hx) (gMk.ext hb hx));obtain⟨v,rfl,hl,_⟩:=ha;obtain⟨u,rfl,hmm,_⟩:=hb;obtain⟨l,c⟩:=a;obtain⟨m,d⟩:=b;have HEQ:=hH (fun(W:World) (hx:Ext w W)=>Qpu (hl.ext Qap hx) (hmm.ext Qap hx));simp only at hl hmm HEQ ⊢;obtain⟨a1,n1,c1,rfl⟩:=hl.slice;obtain⟨a2,n2,c2,rfl⟩:=hmm.slice;obtain⟨rfl,_,_⟩:=hl.len;obtain⟨rfl,_,_⟩:=hmm.len;clear hl hmm;cases g1:inB clock 1 10000 with
 |false=>
  clear hc hm;exact Qoy
 |true=>
  cases g2:inB many 1 60 with
  |false=>
   clear hc hm;exact Qoy
  |true=>
   have hb1:1≤clock∧clock≤10000:=by unfold inB at g1;simpa using g1
   have hb2:1≤many∧many≤60:=by unfold inB at g2;simpa using g2
   obtain⟨b1,b2⟩:=hb1;obtain⟨b3,b4⟩:=hb2;clear hc hm;exact Qoy
end Go.Proofs.YtgnccjojfebkeaaGreat
namespace Go.Proofs.YtgnccjojfebkeaaGreat
open Go Go.RowKit Go.BigFrame Cp
theorem Quq {F G:Nat→Prop} {w:World} {cs ds:List Value} {d:De} (h:RDe F w cs d) (k:RDe G w ds d):
  Calls Tryz.prog 163 #[.agg cs.toArray,.agg ds.toArray] w fun e w'=>e= .returned (.bool true)∧Ext w w':=by
 obtain⟨v,x,u,rfl,_,h1,h2,h3,h4,h5,_⟩:=h;obtain⟨v',x',u',rfl,_,k1,k2,k3,k4,k5,_⟩:=k;obtain⟨kd,⟨⟨p,c⟩,t⟩,⟨m,e⟩,mn⟩:=d;simp only at h1 h2 h3 h4 h5 k1 k2 k3 k4 k5 ⊢;obtain⟨s,rfl,rfl,hs⟩:=Qby h3;obtain⟨s2,rfl,e2,hs2⟩:=Qby k3;obtain rfl:=Qrq e2;have HS:=hH (fun(W:World) (hx:Ext w W)=>Qll (Qam (h4.ext Qap hx) h5) (Qam (k4.ext Qap hx) k5));have HR:=hH (fun(W:World) (hx:Ext w W)=>Qpi (Qh0 (h1.ext Qap hx) h2 (Qss hs)) (Qh0 (k1.ext Qap hx) k2 (Qss hs)));obtain⟨a1,n1,c1,rfl⟩:=h1.slice;obtain⟨a2,n2,c2,rfl⟩:=h4.slice;obtain⟨a3,n3,c3,rfl⟩:=k1.slice;obtain⟨a4,n4,c4,rfl⟩:=k4.slice;clear h1 h2 h3 h4 h5 k1 k2 k3 k4 k5 e2;go_enter Tryz.func163,Tryz.ntmps163;go_wp2_with (first|(go_at_call 135;go_must ((with_reducible refine(HS.o _ Qac).mono ?_);rintro e w1 ⟨rfl,hx1⟩;have hs1:=hx1.size;(try simp at hs1);obtain⟨p0,p1,p2,p3,p4,p5,p6⟩:=cC7 hx1 (w.heap.size) (.int .i64 kd) (.slice a1 n1 c1) (.int .i64 c) (.string s) (.slice a2 n2 c2) (.int .i64 e) (.int .i64 mn);obtain⟨p7,p8,p9,p10,p11,p12,p13⟩:=cC7 hx1 (w.heap.size+1) (.int .i64 kd) (.slice a3 n3 c3) (.int .i64 c) (.string s) (.slice a4 n4 c4) (.int .i64 e) (.int .i64 mn)))|(go_at_call 180;go_must ((with_reducible refine(HR.o _ Qac).mono ?_);rintro e w2 ⟨rfl,hx2⟩;)))
 go_ret;exact⟨rfl,Qac⟩
theorem Qst {F G:Nat→Prop} {w:World} {v u:Value} {l:List De} (h:RSl RDe 7 F w v l) (k:RSl RDe 7 G w u l):
  Calls Tryz.prog 88 #[v,u] w fun e w'=>e= .returned (.bool true)∧Ext w w':=by
 have HL:=hH (fun(W:World) (hx:Ext w W)=>h.ext gDe hx);have HM:=hH (fun(W:World) (hx:Ext w W)=>k.ext gDe hx);obtain⟨a,n,c,rfl⟩:=h.slice;obtain⟨a2,n2,c2,rfl⟩:=k.slice;obtain⟨rfl,hn1,hn2⟩:=h.len;obtain⟨rfl,_,_⟩:=k.len;unfold maxLen at hn2;have q1:l.length≤9223372036854775807:=oM;clear h k hn1 hn2;go_enter Tryz.func88,Tryz.ntmps88;go_wp2
 go_loopw [5] (fun i wr=>∃q:Nat,q≤l.length∧i= .int .i64 q∧Ext w wr) (fun i _=>l.length-(intOf i).toNat)
 case atStart=>exact⟨0,Nat.zero_le _,rfl,ext_refl _⟩
 case round=>
  obtain⟨q,hq,rfl,hx⟩:=hrel;have HX:=hH hx;clear hx;by_cases hlt:q<l.length
  ·obtain⟨b,o,d,b1,m1,e1,b2,m2,e2,s,rfl,hb,ek,hde,u0,u1,u2,u3,u4,u5,u6⟩:=Qfd (HL.o wr HX.o) hlt;obtain⟨b',o',d',b1',m1',e1',b2',m2',e2',s',rfl,hb',ek',hde',v0,v1,v2,v3,v4,v5,v6⟩:=Qfd (HM.o wr HX.o) hlt;obtain rfl:d=d':=by rw[ek] at ek';exact Option.some.inj ek'
   have HSM:=hH (fun(W:World) (hx:Ext wr W)=>Quq (gDe.ext hde hx) (gDe.ext hde' hx));generalize d.kind=dk at *;generalize d.run.1.2=rc at *;generalize d.mark.2=mc at *;generalize d.many=dn at *;clear ek ek' hde hde';go_wp2_with fail
   refine Qad (fun W2 eW2=> ?_);have f0:=rL eW2 ⟨b,o+q * 7,none⟩ (.int .i64 dk);have f1:=rL eW2 ⟨b,o+q * 7+1,none⟩ (.slice b1 m1 e1);have f2:=rL eW2 ⟨b,o+q * 7+2,none⟩ (.int .i64 rc);have f3:=rL eW2 ⟨b,o+q * 7+3,none⟩ (.string s);have f4:=rL eW2 ⟨b,o+q * 7+4,none⟩ (.slice b2 m2 e2);have f5:=rL eW2 ⟨b,o+q * 7+5,none⟩ (.int .i64 mc);have f6:=rL eW2 ⟨b,o+q * 7+6,none⟩ (.int .i64 dn);have f7:=rL eW2 ⟨b',o'+q * 7,none⟩ (.int .i64 dk);have f8:=rL eW2 ⟨b',o'+q * 7+1,none⟩ (.slice b1' m1' e1');have f9:=rL eW2 ⟨b',o'+q * 7+2,none⟩ (.int .i64 rc);have f10:=rL eW2 ⟨b',o'+q * 7+3,none⟩ (.string s');have f11:=rL eW2 ⟨b',o'+q * 7+4,none⟩ (.slice b2' m2' e2');have f12:=rL eW2 ⟨b',o'+q * 7+5,none⟩ (.int .i64 mc);have f13:=rL eW2 ⟨b',o'+q * 7+6,none⟩ (.int .i64 dn);have zW2_0:=zE eW2 b;have zW2_1:=zE eW2 b';have hw2:=xE wr eW2;clear eW2;refine Qaa fol kR (fun hlater=> ?_);repeat(go_big_quiet_step ((first
     |(go_at_call 163;(with_reducible exact Qah (HSM.o _ (ext_trans hw2 (Later.ext _))))))))
   refine wpQuiet_nil ?_;exact Zal
  ·go_wp2
   go_ret;exact⟨rfl,HX.o⟩
def Vaw (q:List Mk) (w:World) (e:Ending) (w':World):Prop:=∃v,e= .returned v∧RSl RMk 2 (fun j=>w.heap.size≤j) w' v q∧Ext w w'
theorem Qoz (m:Mk) (k:Nat):Qbr m (k+1)=Qbr m k++[Qar m (k:Int)]:=by unfold Qbr;rw[List.range_succ,List.map_append];rfl
theorem Qo0 {F:Nat→Prop} {w:World} {cs:List Value} {d:De} (h:RDe F w cs d) (hc:Qat d=0):
  Calls Tryz.prog 124 #[.agg cs.toArray] w (Vaw (Qbl d) w):=by
 obtain⟨v0,x0,u0,rfl,hk,h1,h2,h3,h4,h5,h6⟩:=h;obtain⟨a1,n1,c1,rfl⟩:=h1.slice;obtain⟨a2,n2,c2,rfl⟩:=h4.slice;obtain⟨sx,rfl,hsx,hsz⟩:=Qby h3;obtain⟨dk,⟨⟨p1,d1⟩,tx⟩,⟨p2,d2⟩,dn⟩:=d;simp only at hk h1 h2 h3 h4 h5 h6 hsx ⊢;subst hsx;obtain⟨i0,hi0,hz0,hz1',hz2⟩:=info_parts Ql3;have HJ:=hH hi0;have HZ0:=hH hz0;have HZ1:=hH hz1';have HZ2:=hH hz2;have HM1:=hH (fun(W:World) (hx:Ext w W)=>Qam (h1.ext Qap hx) h2);have HM2:=hH (fun(W:World) (hx:Ext w W)=>Qam (h4.ext Qap hx) h5);clear h1 h2 h3 h4 h5 h6 hk hi0 hz0 hz1' hz2;by_cases hkd:dk=1
 ·obtain⟨hr,_,_⟩:=Qge hc hkd;obtain⟨hc2,_,hc3,_,_⟩:=Qb1 hr;simp only at hc2 hc3;have hE:Qbl ⟨dk,((p1,d1),sx.data.toList),(p2,d2),dn⟩=Qbr (p1,d1) sx.size:=by unfold Qbl;rw[if_pos hkd];try simp
  rw[hE];have hkk:(dk==1)=true:=by simpa using hkd
  have hs60:sx.size≤60:=by simpa using hc3
  have HAF:=hH (fun(k:Nat) (hk:k<sx.size) (W:World) (hx:Ext w W)=>Qfp (k:=(k:Int)) (HM1.o W hx) (Qcn hc2) (Qew hc2) (Qc6 hc2) (Qbu hc2) ⟨oM,oM⟩);clear hE hc hr hc2 hc3 HM1 HM2 hkd;go_enter Tryz.func124,Tryz.ntmps124;go_wp2_with fail
  refine Qad (fun wb ewb=> ?_);obtain⟨b0,b1,b2,b3,b4,b5,b6⟩:=rR7 ewb w.heap.size (.int .i64 dk) (.slice a1 n1 c1) (.int .i64 d1) (.string sx) (.slice a2 n2 c2) (.int .i64 d2) (.int .i64 dn);have hbb:w.heap.size<wb.heap.size:=by rw[ewb];first|omega|(simp<;>omega)
  have HWB:=hH (xE w ewb);clear ewb;go_loopw [3,4] (fun ov iv wr=>∃k:Nat,k≤sx.size∧iv= .int .i64 k∧Hid (OSl RMk 2 103 wb.heap.size (fun j=>wb.heap.size≤j) wr ov (Qbr (p1,d1) k))∧Ext wb wr) (fun _ iv _=>sx.size-(intOf iv).toNat)
  case atStart=>exact⟨0,Nat.zero_le _,rfl,hH Qbn,ext_refl _⟩
  case round=>
   obtain⟨k,hk,rfl,HO,hx⟩:=hrel;obtain⟨x0,x1,x2,x3,x4,x5,x6⟩:=tT7 hx hbb b0 b1 b2 b3 b4 b5 b6;have hzr:=hx.size;have HXB:=hH hx;have HX:=hH (ext_trans HWB.o hx);have hbr:w.heap.size<wr.heap.size:=oM;clear hx b0 b1 b2 b3 b4 b5 b6;obtain⟨a5,n5,c5,rfl⟩:=Qab HO.o;have HOL:=hH (Qak HO.o);have hq:(Qbr (p1,d1) k).length≤1000:=by rw[Qgz];omega
   obtain rfl:n5=(Qbr (p1,d1) k).length:=(Qa2 HO.o).1;by_cases hlt:k<sx.size
   ·have HA:=hH (HAF.o k hlt);have HEX:=hH (Qoz (p1,d1) k);generalize Qbr (p1,d1) k=q at *;generalize Qar (p1,d1) (k:Int)=am at *;go_wp2_with (first|(go_at_call 179;go_must ((with_reducible refine(HA.o _ (ext_trans HX.o Qac)).mono ?_);rintro e w3 ⟨cs3,rfl,hm3,hx3⟩;have HM3:=hH (Qem hm3);obtain⟨v3,rfl,hv3,hi3⟩:=hm3;obtain⟨a3,n3,c3,rfl⟩:=Qab hv3;have HI3:=hH hi3;have hs3:=hx3.size;(try simp at hs3);have hb3:=zL hx3 w.heap.size;obtain⟨q0,q1,q2,q3,q4,q5,q6⟩:=cC7 hx3 w.heap.size (.int .i64 dk) (.slice a1 n1 c1) (.int .i64 d1) (.string sx) (.slice a2 n2 c2) (.int .i64 d2) (.int .i64 dn);clear hv3 hi3))|(at_builtin;go_must (refine Qaj gMk rfl (.tmp 17) (.tmp 23) 40 rfl wb.heap.size 103 i0 _ 2 32 Tryz.underlying40 HJ.o HZ0.o HZ1.o HZ2.o rfl oM (F:=fun j=>wb.heap.size≤j) (G:=fun j=>wr.heap.size≤j) (.slice a5 q.length c5) q rfl (Qai gMk HO.o Qac) _ [am] rfl (Qkj (RSl.more Qap (fun j hj _=>(show wr.heap.size≤j by first|omega|(simp at hj;omega))) ((Qw8 HM3.o).ext Qap Qac)) HI3.o asG asG ltA ltA) Qf1 (fun j hj _=>⟨oM,fun e=>by have:=HOL.o j e.symm;omega⟩) (Qfs hq) (Qia hq) ltA ?_;intro v9 w9 hown9 hg9 hat9;obtain⟨a9,n9,c9,rfl⟩:=Qab hown9;have hx9:Ext wb w9:=Qao (ext_trans HXB.o Qac) hg9 (fun j hj=>(HOL.o j hj).1);have HV9:=hown9)))
    go_roundw
    case rel=>exact⟨k+1,oM,by go_num,hH (by rw[HEX.o];exact HV9),hx9⟩
    case measure=>simp[intOf];omega
   ·have hkn:k=sx.size:=oM;subst hkn;have HF:=hH (Qaz gMk HO.o (G:=fun j=>w.heap.size≤j) (fun j hj _=>by omega) (fun j hj=>by omega));go_wp2
    go_ret;exact⟨_,rfl,HF.o,HX.o⟩
 ·obtain⟨_,hc2,⟨n,hn0,hn1,hn2⟩,_,_,_⟩:=Qfx hc hkd;simp only at hc2 hn0;have hE:Qbl ⟨dk,((p1,d1),sx.data.toList),(p2,d2),dn⟩=Qbr (p2,d2) n:=by unfold Qbl;rw[if_neg hkd,hn0];try simp
  rw[hE];have hkk:(dk==1)=false:=by simpa using hkd
  subst hn0;have HAF:=hH (fun(k:Nat) (hk:k<n) (W:World) (hx:Ext w W)=>Qfp (k:=(k:Int)) (HM2.o W hx) (Qcn hc2) (Qew hc2) (Qc6 hc2) (Qbu hc2) ⟨oM,oM⟩);clear hE hc hc2 HM1 HM2 hkd;go_enter Tryz.func124,Tryz.ntmps124;go_wp2_with fail
  refine Qad (fun wb ewb=> ?_);obtain⟨b0,b1,b2,b3,b4,b5,b6⟩:=rR7 ewb w.heap.size (.int .i64 dk) (.slice a1 n1 c1) (.int .i64 d1) (.string sx) (.slice a2 n2 c2) (.int .i64 d2) (.int .i64 (n:Nat));have hbb:w.heap.size<wb.heap.size:=by rw[ewb];first|omega|(simp<;>omega)
  have HWB:=hH (xE w ewb);clear ewb;go_loopw [3,5] (fun ov iv wr=>∃k:Nat,k≤n∧iv= .int .i64 k∧Hid (OSl RMk 2 103 wb.heap.size (fun j=>wb.heap.size≤j) wr ov (Qbr (p2,d2) k))∧Ext wb wr) (fun _ iv _=>n-(intOf iv).toNat)
  case atStart=>exact⟨0,Nat.zero_le _,rfl,hH Qbn,ext_refl _⟩
  case round=>
   obtain⟨k,hk,rfl,HO,hx⟩:=hrel;obtain⟨x0,x1,x2,x3,x4,x5,x6⟩:=tT7 hx hbb b0 b1 b2 b3 b4 b5 b6;have hzr:=hx.size;have HXB:=hH hx;have HX:=hH (ext_trans HWB.o hx);have hbr:w.heap.size<wr.heap.size:=oM;clear hx b0 b1 b2 b3 b4 b5 b6;obtain⟨a5,n5,c5,rfl⟩:=Qab HO.o;have HOL:=hH (Qak HO.o);have hq:(Qbr (p2,d2) k).length≤1000:=by rw[Qgz];omega
   obtain rfl:n5=(Qbr (p2,d2) k).length:=(Qa2 HO.o).1;by_cases hlt:k<n
   ·have HA:=hH (HAF.o k hlt);have HEX:=hH (Qoz (p2,d2) k);generalize Qbr (p2,d2) k=q at *;generalize Qar (p2,d2) (k:Int)=am at *;go_wp2_with (first|(go_at_call 179;go_must ((with_reducible refine(HA.o _ (ext_trans HX.o Qac)).mono ?_);rintro e w3 ⟨cs3,rfl,hm3,hx3⟩;have HM3:=hH (Qem hm3);obtain⟨v3,rfl,hv3,hi3⟩:=hm3;obtain⟨a3,n3,c3,rfl⟩:=Qab hv3;have HI3:=hH hi3;have hs3:=hx3.size;(try simp at hs3);have hb3:=zL hx3 w.heap.size;obtain⟨q0,q1,q2,q3,q4,q5,q6⟩:=cC7 hx3 w.heap.size (.int .i64 dk) (.slice a1 n1 c1) (.int .i64 d1) (.string sx) (.slice a2 n2 c2) (.int .i64 d2) (.int .i64 (n:Nat));clear hv3 hi3))|(at_builtin;go_must (refine Qaj gMk rfl (.tmp 32) (.tmp 37) 40 rfl wb.heap.size 103 i0 _ 2 32 Tryz.underlying40 HJ.o HZ0.o HZ1.o HZ2.o rfl oM (F:=fun j=>wb.heap.size≤j) (G:=fun j=>wr.heap.size≤j) (.slice a5 q.length c5) q rfl (Qai gMk HO.o Qac) _ [am] rfl (Qkj (RSl.more Qap (fun j hj _=>(show wr.heap.size≤j by first|omega|(simp at hj;omega))) ((Qw8 HM3.o).ext Qap Qac)) HI3.o asG asG ltA ltA) Qf1 (fun j hj _=>⟨oM,fun e=>by have:=HOL.o j e.symm;omega⟩) (Qfs hq) (Qia hq) ltA ?_;intro v9 w9 hown9 hg9 hat9;obtain⟨a9,n9,c9,rfl⟩:=Qab hown9;have hx9:Ext wb w9:=Qao (ext_trans HXB.o Qac) hg9 (fun j hj=>(HOL.o j hj).1);have HV9:=hown9)))
    go_roundw
    case rel=>exact⟨k+1,oM,by go_num,hH (by rw[HEX.o];exact HV9),hx9⟩
    case measure=>simp[intOf];omega
   ·obtain rfl:k=n:=oM;have HF:=hH (Qaz gMk HO.o (G:=fun j=>w.heap.size≤j) (fun j hj _=>by omega) (fun j hj=>by omega));go_wp2
    go_ret;exact⟨_,rfl,HF.o,HX.o⟩
theorem Qzl {a b:No} (h:¬Qdl a.site b.site=0):Qdz a b=Qdl a.site b.site:=by unfold Qdz;rw[if_neg h]
theorem Qwh {a b:No} (h:Qdl a.site b.site=0):Qdz a b=Qdl a.number b.number:=by unfold Qdz;rw[if_pos h]
theorem Qsh {F G:Nat→Prop} {w:World} {cs ds:List Value} {a b:No} (h:RNo F w cs a) (k:RNo G w ds b):
  Calls Tryz.prog 81 #[.agg cs.toArray,.agg ds.toArray] w fun e w'=>e= .returned (.int .i64 (Qdz a b))∧Ext w w':=by
 obtain⟨v,u,rfl,_,_,h1,h2⟩:=h;obtain⟨v',u',rfl,_,_,k1,k2⟩:=k;obtain⟨a1,n1,c1,rfl⟩:=h1.slice;obtain⟨a2,n2,c2,rfl⟩:=h2.slice;obtain⟨a3,n3,c3,rfl⟩:=k1.slice;obtain⟨a4,n4,c4,rfl⟩:=k2.slice;clear h1 h2 k1 k2;by_cases h0:Qdl a.site b.site=0
 ·have t1:(Qdl a.site b.site==0)=true:=by simpa using h0
  have HO:=hH (Qwh h0);clear h0;go_enter Tryz.func81,Tryz.ntmps81;go_wp2_with (go_at_call 149;go_must ((with_reducible refine(Qeq _ _ _).mono ?_);rintro e w3 ⟨rfl,rfl⟩;skip))
  go_ret;exact⟨ri HO.o.symm,Qac⟩
 ·have t1:(Qdl a.site b.site==0)=false:=by simpa using h0
  have HO:=hH (Qzl h0);clear h0;go_enter Tryz.func81,Tryz.ntmps81;go_wp2_with (go_at_call 149;go_must ((with_reducible refine(Qeq _ _ _).mono ?_);rintro e w3 ⟨rfl,rfl⟩;skip))
  go_ret;exact⟨ri HO.o.symm,Qac⟩
theorem Zan {p:Prop} (h:p:=by
 go_wp2_with (go_at_call 115;go_must ((with_reducible refine(HLS.o _ Qac).mono ?_);rintro e w4 ⟨rfl,hx4⟩;have HX4:=xY wr hx4;have s1':=(HX4.o.cells g _ hgb).trans s1;clear hx4))
 go_roundw
 case rel=>exact⟨k+1,hlt,by go_num,by rw[HE.o],hH (ext_trans HX.o HX4.o)⟩
 case measure=>simp[intOf];omega):p:=h
theorem Qgp {F:Nat→Prop} {w:World} {v:Value} {l:List Mk} {site:Int} (h:RSl RMk 2 F w v l) (hc:∀m∈l,Qaf m=0) (hl:l.length≤1000000):
  Calls Tryz.prog 83 #[v,.int .i64 site] w fun e w'=>e= .returned (.int .i64 (Qik (Qgu site) 0 l))∧Ext w w':=by
 have HL:=hH (fun(W:World) (hx:Ext w W)=>h.ext gMk hx);obtain⟨a0,n0,c0,rfl⟩:=h.slice;obtain rfl:n0=l.length:=h.len.1;have HC:=hH hc;clear h hc;go_enter Tryz.func83,Tryz.ntmps83;go_wp2_with fail
 go_loopw [5,6] (fun nv iv wr=>∃k:Nat,k≤l.length∧iv= .int .i64 k∧nv= .int .i64 (Qik (Qgu site) 0 (l.take k))∧Hid (Ext w wr)) (fun _ iv _=>l.length-(intOf iv).toNat)
 case atStart=>exact⟨0,Nat.zero_le _,rfl,rfl,hH Qac⟩
 case round=>
  obtain⟨k,hk,rfl,rfl,HX⟩:=hrel;by_cases hlt:k<l.length
  ·obtain⟨g,q,p,c,ap,cp,rfl,hgb,ek,ick,hpp,s0,s1⟩:=Qc7 (HL.o wr HX.o) hlt;have hm:=HC.o _ (List.mem_of_getElem? ek);have HLS:=hH (fun(W:World) (hx:Ext wr W)=>Qgf (Qam (hpp.ext Qap hx) ick) hm);have HEK:=hH (Qim (Qgu site) 0 ek);have h0:0≤Qik (Qgu site) 0 (l.take k):=((Qil (Qgu site) (l.take k) 0 _).1 (Int.le_refl _)).1;have hgn:¬g=wr.heap.size:=oM;have hcm:Qgu site (p,c)=if Qbq p=site then c else 0:=rfl
   rw[hcm] at HEK;clear hm ek hpp ick hcm;generalize Qik (Qgu site) 0 (l.take k)=mx at *;generalize Qbq p=ls at *;by_cases h1:ls=site
   ·have t1:(ls==site)=true:=by simpa using h1
    rw[if_pos h1] at HEK;by_cases h2:mx<c
    ·have t2:decide (mx<c)=true:=decide_eq_true h2;have HE:=hH (show c=Qik (Qgu site) 0 (l.take (k+1)) by rw[HEK.o];unfold Qk4;rw[if_pos h2]);clear h1 h2 HEK;exact Zan
    ·have t2:decide (mx<c)=false:=decide_eq_false h2;have HE:=hH (show mx=Qik (Qgu site) 0 (l.take (k+1)) by rw[HEK.o];unfold Qk4;rw[if_neg h2]);clear h1 h2 HEK;exact Zan
   ·have t1:(ls==site)=false:=by simpa using h1
    have HE:=hH (show mx=Qik (Qgu site) 0 (l.take (k+1)) by rw[HEK.o,if_neg h1];unfold Qk4;rw[if_neg oM]);clear h1 HEK;exact Zan
  ·have hke:l.take k=l:=List.take_of_length_le oM;rw[hke];go_wp2_with fail
   go_ret;exact⟨rfl,HX.o⟩
def Vav (H:Nat→Prop) (q:List Mk) (w:World) (e:Ending) (w':World):Prop:=∃v,e= .returned v∧RSl RMk 2 H w' v q∧Ext w w'
theorem Qzw {F G H:Nat→Prop} {w:World} {v:Value} {ds:List Value} {l:List Mk} {m:Mk} (h:RSl RMk 2 F w v l) (km:RMk G w ds m) (hF:∀j,F j→H j) (hG:∀j,G j→H j) (hN:∀j,w.heap.size≤j→H j) (hs:Qca l) (hl:l.length≤900):
  Calls Tryz.prog 125 #[v,.agg ds.toArray] w (Vav H (Qmf l m) w):=by
 have h0:RSl RMk 2 (fun j=>H j∧j<w.heap.size) w v l:=RSl.more gMk (fun j hj hk=>⟨hF j hj,hk⟩) h;have HNH:=hH hN;have HAS:=hH (fun(W:World) (hx:Ext w W)=>Qht (h.ext gMk hx) (gMk.ext km hx));have HL:=hH (fun(W:World) (hx:Ext w W)=>h0.ext gMk hx);obtain⟨a0,n0,c0,rfl⟩:=h0.slice;obtain rfl:n0=l.length:=h0.len.1;obtain⟨u,rfl,hu,hui⟩:=km;obtain⟨pa,da⟩:=m;simp only at hu hui HAS ⊢;have hu':RSl Qdt 2 (fun j=>H j∧j<w.heap.size) w u pa:=RSl.more Qap (fun j hj hk=>⟨hG j hj,hk⟩) hu;have HPA:=hH (fun(W:World) (hx:Ext w W)=>hu'.ext Qap hx);have HIA:=hH hui;obtain⟨aa,na,ca,rfl⟩:=hu'.slice;obtain rfl:na=pa.length:=hu'.len.1;obtain⟨i0,hi0,hz0,hz1',hz2⟩:=info_parts Ql3;have HJ:=hH hi0;have HZ0:=hH hz0;have HZ1:=hH hz1';have HZ2:=hH hz2;clear h0 h hu hu' hui hF hG hN hi0 hz0 hz1' hz2;cases hg:Qc5 l (pa,da) with
 |true=>
  have e:=Qnq hs hg;rw[hg] at HAS;rw[e];clear e hg hs;go_enter Tryz.func125,Tryz.ntmps125;go_wp2_with (first|(go_at_call 61;go_must ((with_reducible refine(HAS.o _ Qac).mono ?_);rintro e w1 ⟨rfl,hx1⟩;have hs1:=hx1.size;(try simp at hs1);have hlw1:=zL hx1 w.heap.size;obtain⟨q0,q1⟩:=cC2 hx1 (w.heap.size) (.slice aa pa.length ca) (.int .i64 da);have HXG:=hH hx1;clear hx1)))
  go_ret;exact⟨_,rfl,RSl.more gMk (fun _ hj _=>hj.1) (HL.o _ (ext_trans Qac HXG.o)),ext_trans Qac HXG.o⟩
 |false=>
  have HNO:=hH (fun(k:Nat) (x:Mk) (hx:l[k]?=some x)=>Q9n hg hx);rw[hg] at HAS;clear hg hs;go_enter Tryz.func125,Tryz.ntmps125;go_wp2_with (first|(go_at_call 61;go_must ((with_reducible refine(HAS.o _ Qac).mono ?_);rintro e w1 ⟨rfl,hx1⟩;have hs1:=hx1.size;(try simp at hs1);have hlw1:=zL hx1 w.heap.size;obtain⟨q0,q1⟩:=cC2 hx1 (w.heap.size) (.slice aa pa.length ca) (.int .i64 da);have HXG:=hH hx1;clear hx1)))
  refine Qad (fun wb ewb=> ?_);obtain⟨b0,b1⟩:=rR2 ewb w.heap.size (.slice aa pa.length ca) (.int .i64 da);have hbb:w.heap.size<wb.heap.size:=by rw[ewb];first|omega|(simp;omega)
  have HWB:=hH (show Ext w wb by rw[ewb];exact ext_trans Qac HXG.o);clear ewb HAS HXG q0 q1;go_loopw [5,6,7] (fun ov pv iv wr=>∃(k:Nat) (out:List Mk) (put:Bool),k≤l.length∧iv= .int .i64 k∧pv= .bool put∧Hid (OSl RMk 2 103 wb.heap.size H wr ov out)∧Hid (Q40 l (pa,da) k out put)∧Ext wb wr) (fun _ _ iv _=>l.length-(intOf iv).toNat)
  case atStart=>exact⟨0,[],false,Nat.zero_le _,rfl,rfl,hH Qbn,hH (Qyw _ _),ext_refl _⟩
  case round=>
   obtain⟨k,out,put,hk,rfl,rfl,HO,HD,hx⟩:=hrel;obtain⟨x0,x1⟩:=tT2 hx hbb b0 b1;have hzr:=hx.size;have HXB:=hH hx;have HX:=hH (ext_trans HWB.o hx);have hbr:w.heap.size<wr.heap.size:=oM;clear hx b0 b1;obtain⟨a5,n5,c5,rfl⟩:=Qab HO.o;obtain rfl:n5=out.length:=(Qa2 HO.o).1;have hol:out.length≤1000:=by have:=HD.o.2.1;omega
   have hol2:(out++[(pa,da)]).length≤1000:=by rw[List.length_append,List.length_singleton];have:=HD.o.2.1;omega
   have HOL:=hH (Qak HO.o);by_cases hlt:k<l.length
   ·have hbw:∀b o,a0=some ⟨b,o,none⟩→b<w.heap.size:=fun b o e=>by
     obtain⟨b',o',_,_,_,_,e',hb',_⟩:=Qc7 (HL.o w (ext_refl w)) hlt;rw[e'] at e;injection e with e;injection e with e1;omega
    obtain⟨b,o,p,d,ap,cp,rfl,hb,ek,ick,hpp,y0,y1⟩:=Qc7 (HL.o wr HX.o) hlt;have hbw0:=hbw b o rfl;clear hbw;have HPP:=hH (fun(W:World) (hx:Ext wr W)=>hpp.ext Qap hx);have HIC:=hH ick;have HOR:=hH (fun(W:World) (hx:Ext wr W)=>Qes (Qam (hpp.ext Qap hx) ick) (Qam (HPA.o _ (ext_trans HX.o hx)) HIA.o));have hnb:¬b=wr.heap.size:=oM;have hnw:¬w.heap.size=wr.heap.size:=oM;have hbwr:b<wr.heap.size:=hb;have hne:=HNO.o k _ ek;clear ick hpp hb;cases put with
    |true=>
     have HE:=hH (Q5t HD.o ek);clear ek HD hne HOR;go_wp2_with fail
     refine Qad (fun W2 eW2=> ?_);obtain⟨e0,e1⟩:=rR2 eW2 w.heap.size (.slice aa pa.length ca) (.int .i64 da);have e2:=rL eW2 ⟨b,o+k * 2,none⟩ (.slice ap p.length cp);have e3:=rL eW2 ⟨b,o+k * 2+1,none⟩ (.int .i64 d);have zW2_0:=zE eW2 b;have zW2_1:=zE eW2 w.heap.size;have hw2:=xE wr eW2;clear eW2;refine Qaa fol kR (fun hlater=> ?_);repeat(go_big_quiet_step ((first
       |fail)))
     refine wpQuiet_nil ?_;rintro W3 ⟨⟨w3x,hx3⟩,rfl⟩;clear hlater;have f0:=(hx3.cells _ _ zW2_1).trans e0;have f1:=(hx3.cells _ _ zW2_1).trans e1;have f2:=(hx3.cells _ _ zW2_0).trans e2;have f3:=(hx3.cells _ _ zW2_0).trans e3;have hR3:Ext wr W3:=ext_trans hw2 hx3;have hs3:=hR3.size;have hb3:b<W3.heap.size:=oM;have hw3:w.heap.size<W3.heap.size:=oM;have hnb3:¬b=W3.heap.size:=oM;have hnw3:¬w.heap.size=W3.heap.size:=oM;clear e0 e1 e2 e3 hx3 hw2 x0 x1 y0 y1;go_wp2_with (first|(at_builtin;go_must (refine Qaj gMk rfl (.tmp 33) (.tmp 38) 40 rfl wb.heap.size 103 i0 _ 2 32 Tryz.underlying40 HJ.o HZ0.o HZ1.o HZ2.o rfl oM (F:=H) (G:=fun j=>(H j∧j<w.heap.size)∨wr.heap.size≤j) (.slice a5 out.length c5) out rfl (Qai gMk HO.o Qac) _ [(p,d)] rfl (Qkj (RSl.more Qap (fun j hj _=>Or.inl hj) (HPP.o _ Qac)) HIC.o asG asG (Or.inr ltA) ltA) Qf1 (fun j hj _=>⟨hj.elim (fun h=>h.1) (fun h=>HNH.o j oM),fun e=>by have:=HOL.o j e.symm;rcases hj with h|h;(have h':=h.2;omega);omega⟩) (Qfs hol) (Qia hol) ltA ?_;intro v9 w9 hown9 hg9 hat9;obtain⟨a9,n9,c9,rfl⟩:=Qab hown9;have hx9:Ext wb w9:=Qao (ext_trans HXB.o Qac) hg9 (fun j hj=>(HOL.o j hj).1);have HV9:=hH hown9)))
     go_roundw
     case rel=>exact⟨k+1,_,true,oM,by go_num,rfl,HV9,HE,hx9⟩
     case measure=>simp[intOf];omega
    |false=>
     by_cases h1:Qau (p,d) (pa,da)=1
     ·have HE:=hH (Q5s HD.o ek h1);rw[h1] at HOR;clear ek h1 HD hne;go_wp2_with fail
      refine Qad (fun W2 eW2=> ?_);obtain⟨e0,e1⟩:=rR2 eW2 w.heap.size (.slice aa pa.length ca) (.int .i64 da);have e2:=rL eW2 ⟨b,o+k * 2,none⟩ (.slice ap p.length cp);have e3:=rL eW2 ⟨b,o+k * 2+1,none⟩ (.int .i64 d);have zW2_0:=zE eW2 b;have zW2_1:=zE eW2 w.heap.size;have hw2:=xE wr eW2;clear eW2;refine Qaa fol kR (fun hlater=> ?_);repeat(go_big_quiet_step ((first
        |(go_at_call 148;(with_reducible exact Qah (HOR.o _ (ext_trans hw2 (Later.ext _))))))))
      refine wpQuiet_nil ?_;rintro W3 ⟨⟨w3x,hx3⟩,rfl⟩;clear hlater;have f0:=(hx3.cells _ _ zW2_1).trans e0;have f1:=(hx3.cells _ _ zW2_1).trans e1;have f2:=(hx3.cells _ _ zW2_0).trans e2;have f3:=(hx3.cells _ _ zW2_0).trans e3;have hR3:Ext wr W3:=ext_trans hw2 hx3;have hs3:=hR3.size;have hb3:b<W3.heap.size:=oM;have hw3:w.heap.size<W3.heap.size:=oM;have hnb3:¬b=W3.heap.size:=oM;have hnw3:¬w.heap.size=W3.heap.size:=oM;clear e0 e1 e2 e3 hx3 hw2 x0 x1 y0 y1;have HMK1:True:=trivial;go_wp2_with (first|(at_builtin;(clear HMK1);go_must (refine Qaj gMk rfl (.tmp 29) (.tmp 31) 40 rfl wb.heap.size 103 i0 _ 2 32 Tryz.underlying40 HJ.o HZ0.o HZ1.o HZ2.o rfl oM (F:=H) (G:=fun j=>(H j∧j<w.heap.size)∨wr.heap.size≤j) (.slice a5 out.length c5) out rfl (Qai gMk HO.o Qac) _ [(pa,da)] rfl (Qkj (RSl.more Qap (fun j hj _=>Or.inl hj) (HPA.o _ (ext_trans HX.o Qac))) HIA.o asG asG (Or.inr ltA) ltA) Qf1 (fun j hj _=>⟨hj.elim (fun h=>h.1) (fun h=>HNH.o j oM),fun e=>by have:=HOL.o j e.symm;rcases hj with h|h;(have h':=h.2;omega);omega⟩) (Qfs hol) (Qia hol) ltA ?_;intro v8 w8 hown8 hg8 hat8;obtain⟨a8,n8,c8,rfl⟩:=Qab hown8;have HOL8:=hH (Qak hown8);have hx8:Ext wb w8:=Qao (ext_trans HXB.o Qac) hg8 (fun j hj=>(HOL.o j hj).1);have hz8:=hg8.size;(try simp at hz8);have hx8w:Ext w w8:=ext_trans HWB.o hx8;have hb8:wr.heap.size<w8.heap.size:=oM;have hbw8:b<w8.heap.size:=oM;have r0:=hg8.cell (a:=⟨b,o+k * 2,none⟩) (v:= .slice ap p.length cp) asG (fun e=>by have h9:=HOL.o b e.symm;omega);have r1:=hg8.cell (a:=⟨b,o+k * 2+1,none⟩) (v:= .int .i64 d) asG (fun e=>by have h9:=HOL.o b e.symm;omega);have HPX:=hH (RSl.keep Qap ⟨hg8.size,fun j hj hlt=>hg8.block j hlt (fun e=>by have:=HOL.o j e.symm;omega)⟩ (HPP.o _ Qac));have HV8:=hH hown8;clear hown8 hg8 hat8))|(at_builtin;go_must (refine Qaj gMk rfl (.tmp 33) (.tmp 38) 40 rfl wb.heap.size 103 i0 _ 2 32 Tryz.underlying40 HJ.o HZ0.o HZ1.o HZ2.o rfl oM (F:=H) (G:=fun j=>(H j∧j<w.heap.size)∨w8.heap.size≤j) (.slice a8 n8 c8) (out++[(pa,da)]) rfl (Qai gMk HV8.o Qac) _ [(p,d)] rfl (Qkj (RSl.more Qap (fun j hj _=>Or.inl hj) ((HPX.o.ext Qap Qac))) HIC.o asG asG (Or.inr ltA) ltA) Qf1 (fun j hj _=>⟨hj.elim (fun h=>h.1) (fun h=>HNH.o j oM),fun e=>by have:=HOL8.o j e.symm;rcases hj with h|h;(have h':=h.2;omega);omega⟩) (Qfs hol2) (Qia hol2) ltA ?_;intro v9 w9 hown9 hg9 hat9;obtain⟨a9,n9,c9,rfl⟩:=Qab hown9;have hx9:Ext wb w9:=Qao (ext_trans hx8 Qac) hg9 (fun j hj=>(HOL8.o j hj).1);have HV9:=hH hown9)))
      go_roundw
      case rel=>exact⟨k+1,_,true,oM,by go_num,rfl,HV9,HE,hx9⟩
      case measure=>simp[intOf];omega
     ·have HE:=hH (Q11 HD.o ek hne h1);have g1:decide (0<Qau (p,d) (pa,da))=false:=decide_eq_false (by rcases Qbw (p,d) (pa,da) with h|h|h<;>omega);generalize Qau (p,d) (pa,da)=od at *;clear ek h1 HD hne;go_wp2_with fail
      refine Qad (fun W2 eW2=> ?_);obtain⟨e0,e1⟩:=rR2 eW2 w.heap.size (.slice aa pa.length ca) (.int .i64 da);have e2:=rL eW2 ⟨b,o+k * 2,none⟩ (.slice ap p.length cp);have e3:=rL eW2 ⟨b,o+k * 2+1,none⟩ (.int .i64 d);have zW2_0:=zE eW2 b;have zW2_1:=zE eW2 w.heap.size;have hw2:=xE wr eW2;clear eW2;refine Qaa fol kR (fun hlater=> ?_);repeat(go_big_quiet_step ((first
        |(go_at_call 148;(with_reducible exact Qah (HOR.o _ (ext_trans hw2 (Later.ext _))))))))
      refine wpQuiet_nil ?_;rintro W3 ⟨⟨w3x,hx3⟩,rfl⟩;clear hlater;have f0:=(hx3.cells _ _ zW2_1).trans e0;have f1:=(hx3.cells _ _ zW2_1).trans e1;have f2:=(hx3.cells _ _ zW2_0).trans e2;have f3:=(hx3.cells _ _ zW2_0).trans e3;have hR3:Ext wr W3:=ext_trans hw2 hx3;have hs3:=hR3.size;have hb3:b<W3.heap.size:=oM;have hw3:w.heap.size<W3.heap.size:=oM;have hnb3:¬b=W3.heap.size:=oM;have hnw3:¬w.heap.size=W3.heap.size:=oM;clear e0 e1 e2 e3 hx3 hw2 x0 x1 y0 y1;go_wp2_with (first|(at_builtin;go_must (refine Qaj gMk rfl (.tmp 33) (.tmp 38) 40 rfl wb.heap.size 103 i0 _ 2 32 Tryz.underlying40 HJ.o HZ0.o HZ1.o HZ2.o rfl oM (F:=H) (G:=fun j=>(H j∧j<w.heap.size)∨wr.heap.size≤j) (.slice a5 out.length c5) out rfl (Qai gMk HO.o Qac) _ [(p,d)] rfl (Qkj (RSl.more Qap (fun j hj _=>Or.inl hj) (HPP.o _ Qac)) HIC.o asG asG (Or.inr ltA) ltA) Qf1 (fun j hj _=>⟨hj.elim (fun h=>h.1) (fun h=>HNH.o j oM),fun e=>by have:=HOL.o j e.symm;rcases hj with h|h;(have h':=h.2;omega);omega⟩) (Qfs hol) (Qia hol) ltA ?_;intro v9 w9 hown9 hg9 hat9;obtain⟨a9,n9,c9,rfl⟩:=Qab hown9;have hx9:Ext wb w9:=Qao (ext_trans HXB.o Qac) hg9 (fun j hj=>(HOL.o j hj).1);have HV9:=hH hown9)))
      go_roundw
      case rel=>exact⟨k+1,_,false,oM,by go_num,rfl,HV9,HE,hx9⟩
      case measure=>simp[intOf];omega
   ·have hkl:k=l.length:=oM;subst hkl;have e9:=Q5r HD.o;cases put with
    |true=>
     have HF:=hH (show RSl RMk 2 H wr (.slice a5 out.length c5) (Qmf l (pa,da)) by
      have h9:=Qaz gMk HO.o (G:=H) (fun _ h _=>h) (fun k hk=>HNH.o k (by have:=HWB.o.size;omega));rw[if_pos rfl] at e9;rw[←e9];exact h9)
     clear e9;go_wp2
     go_ret;exact⟨_,rfl,HF.o,HX.o⟩
    |false=>
     rw[if_neg sI] at e9;have HE9:=hH e9;clear e9 HD;go_wp2_with (first|(at_builtin;go_must (refine Qaj gMk rfl (.tmp 42) (.tmp 44) 40 rfl wb.heap.size 103 i0 _ 2 32 Tryz.underlying40 HJ.o HZ0.o HZ1.o HZ2.o rfl oM (F:=H) (G:=fun j=>(H j∧j<w.heap.size)∨wr.heap.size≤j) (.slice a5 out.length c5) out rfl (Qai gMk HO.o Qac) _ [(pa,da)] rfl (Qkj (RSl.more Qap (fun j hj _=>Or.inl hj) (HPA.o _ (ext_trans HX.o Qac))) HIA.o asG asG (Or.inr ltA) ltA) Qf1 (fun j hj _=>⟨hj.elim (fun h=>h.1) (fun h=>HNH.o j oM),fun e=>by have:=HOL.o j e.symm;rcases hj with h|h;(have h':=h.2;omega);omega⟩) (Qfs hol) (Qia hol) ltA ?_;intro v9 w9 hown9 hg9 hat9;obtain⟨a9,n9,c9,rfl⟩:=Qab hown9;have hx9:Ext wb w9:=Qao (ext_trans HXB.o Qac) hg9 (fun j hj=>(HOL.o j hj).1);have HV9:=hH hown9)))
     go_ret;exact⟨_,rfl,by rw[←HE9.o];exact Qaz gMk HV9.o (G:=H) (fun _ h _=>h) (fun k hk=>HNH.o k (by have:=HWB.o.size;omega)),ext_trans HWB.o hx9⟩
def Var (H:Nat→Prop) (l:List At) (w:World) (e:Ending) (w':World):Prop:=∃v,e= .returned v∧RSl RAt 3 H w' v l∧Ext w w'
theorem Vad {w wr:World} {b o b' o' k:Nat} {l:List At} {p p':List Stp} {d d':Int} {s s':UInt8} {ap ap':Option Addr} {cp cp':Nat} (h:(some ⟨b,o,none⟩:Option Addr)=some ⟨b',o',none⟩) (hb:b'<w.heap.size) (hx:Ext w wr)
  (e:l[k]?=some ((p,d),s)) (e':l[k]?=some ((p',d'),s')) (y:wr.cell? ⟨b,o+k * 3,none⟩=some (.slice ap p.length cp)) (g:w.cell? ⟨b',o'+k * 3,none⟩=some (.slice ap' p'.length cp')):p=p'∧ap=ap'∧cp=cp':=by
 simp at h;obtain⟨rfl,rfl⟩:=h;rw[e] at e';rw[hx.cells _ _ hb,g] at y;simp at e' y;exact⟨e'.1.1,y.1.symm,y.2.2.symm⟩
theorem Qix:∀(k:Nat) {l:List At},Qa9 l→Qa9 (l.drop k)
 |0,_,h=>by simpa using h
 |k+1,[],_=>by simp[Qa9]
 |k+1,x::r,h=>by simpa using Qix k (Qb3 h)
theorem Zaf {p:Prop} (h:p:=by
 have HMK1:True:=trivial;have HMK2:True:=trivial;go_wp2_with (first
  |(go_at_call 148;go_must ((with_reducible refine(HOR.o _ Qac).mono ?_);rintro e w2 ⟨rfl,hx2⟩;have hz2:=hx2.size;(try simp at hz2);have hb2:=zL hx2 wr.heap.size;obtain⟨q0,q1,q2⟩:=cC3 hx2 (w.heap.size) (.slice aa pa.length ca) (.int .i64 da) (.int .u8 sa.toNat);obtain⟨q3,q4,q5⟩:=cC3 hx2 (wr.heap.size) (.slice ap p.length cp) (.int .i64 d) (.int .u8 s.toNat);have qf0:=fL hx2 (wr.heap.size) (2)))
  |(at_builtin;(clear HMK1);go_must (refine Qaj gAt rfl (.tmp 45) (.tmp 47) 39 rfl wb.heap.size 129 i0 _ 3 40 Tryz.underlying39 HJ.o HZ0.o HZ1.o HZ2.o rfl oM (F:=H) (G:=fun j=>(H j∧j<w.heap.size)∨wr.heap.size≤j) (.slice a5 out.length c5) out rfl (Qai gAt HO.o Qac) _ [((p,d),s)] rfl (Qrr (RSl.more Qap (fun j hj _=>Or.inl hj) (HPP.o _ Qac)) HIC.o asG asG asG (Or.inr ltA) ltA) Qe7 (fun j hj _=>⟨hj.elim (fun h=>h.1) (fun h=>HNH.o j oM),fun e=>by have:=HOL.o j e.symm;rcases hj with h|h;(have h':=h.2;omega);omega⟩) (Qfs hol) (Qn4 hol) ltA ?_;intro v9 w9 hown9 hg9 hat9;obtain⟨a9,n9,c9,rfl⟩:=Qab hown9;have hx9:Ext wb w9:=Qao (ext_trans HXB.o Qac) hg9 (fun j hj=>(HOL.o j hj).1);have HV9:=hH hown9)))
 go_roundw
 case rel=>exact⟨k+1,_,true,oM,by go_num,rfl,HV9,HE,hx9⟩
 case measure=>simp[intOf];omega):p:=h
theorem Q12 {F G H:Nat→Prop} {w:World} {v:Value} {ds:List Value} {l:List At} {a:At} (h:RSl RAt 3 F w v l) (ka:RAt G w ds a) (hF:∀j,F j→H j) (hG:∀j,G j→H j) (hN:∀j,w.heap.size≤j→H j) (hs:Qa9 l) (hl:l.length≤900):
  Calls Tryz.prog 126 #[v,.agg ds.toArray] w (Var H (Qh3 l a) w):=by
 have h0:RSl RAt 3 (fun j=>H j∧j<w.heap.size) w v l:=RSl.more gAt (fun j hj hk=>⟨hF j hj,hk⟩) h;have HNH:=hH hN;clear h;have HL:=hH (fun(W:World) (hx:Ext w W)=>h0.ext gAt hx);have HSO:=hH hs;obtain⟨a0,n0,c0,rfl⟩:=h0.slice;obtain rfl:n0=l.length:=h0.len.1;obtain⟨u,rfl,hu,hui⟩:=ka;obtain⟨⟨pa,da⟩,sa⟩:=a;simp only at hu hui ⊢;have hu':RSl Qdt 2 (fun j=>H j∧j<w.heap.size) w u pa:=RSl.more Qap (fun j hj hk=>⟨hG j hj,hk⟩) hu;have HPA:=hH (fun(W:World) (hx:Ext w W)=>hu'.ext Qap hx);have HIA:=hH hui;obtain⟨aa,na,ca,rfl⟩:=hu'.slice;obtain rfl:na=pa.length:=hu'.len.1;obtain⟨i0,hi0,hz0,hz1',hz2⟩:=info_parts Qp5;have HJ:=hH hi0;have HZ0:=hH hz0;have HZ1:=hH hz1';have HZ2:=hH hz2;clear h0 hu hu' hui hs hF hG hN hi0 hz0 hz1' hz2;go_enter Tryz.func126,Tryz.ntmps126;go_wp2
 refine Qad (fun wb ewb=> ?_);obtain⟨b0,b1,b2⟩:=rR3 ewb w.heap.size (.slice aa pa.length ca) (.int .i64 da) (.int .u8 sa.toNat);have hbb:=zE ewb w.heap.size;have hwb:=xE w ewb;have HWB:=hH hwb;clear ewb hwb;go_loopw [5,6,7] (fun ov pv iv wr=>∃(k:Nat) (out:List At) (put:Bool),k≤l.length∧iv= .int .i64 k∧pv= .bool put∧Hid (OSl RAt 3 129 wb.heap.size H wr ov out)∧Hid (Qh5 l ((pa,da),sa) k out put)∧Ext wb wr) (fun _ _ iv _=>l.length-(intOf iv).toNat)
 case atStart=>exact⟨0,[],false,Nat.zero_le _,rfl,rfl,hH Qbn,hH (Qtk _ _),ext_refl _⟩
 case round=>
  obtain⟨k,out,put,hk,rfl,rfl,HO,HD,hx⟩:=hrel;obtain⟨x0,x1,x2⟩:=tT3 hx hbb b0 b1 b2;have hzr:=hx.size;have HXB:=hH hx;have HX:=hH (ext_trans HWB.o hx);have hbr:w.heap.size<wr.heap.size:=oM;clear hx b0 b1 b2;obtain⟨a5,n5,c5,rfl⟩:=Qab HO.o;obtain rfl:n5=out.length:=(Qa2 HO.o).1;have hol:out.length≤1000:=by have:=HD.o.2.2.1;omega
  have hol2:(out++[((pa,da),sa)]).length≤1000:=by rw[List.length_append,List.length_singleton];have:=HD.o.2.2.1;omega
  have HOL:=hH (Qak HO.o);by_cases hlt:k<l.length
  ·obtain⟨b,o,p,d,s,ap,cp,rfl,hb,ek,ick,hpp,y0,y1,y2⟩:=Qcd (HL.o wr HX.o) hlt;have HPP:=hH (fun(W:World) (hx:Ext wr W)=>hpp.ext Qap hx);have HIC:=hH ick;have HOR:=hH (fun(W:World) (hx:Ext wr W)=>Qes (Qam (hpp.ext Qap hx) ick) (Qam (HPA.o _ (ext_trans HX.o hx)) HIA.o));have hnb:¬b=wr.heap.size:=oM;have hnw:¬w.heap.size=wr.heap.size:=oM;have hnw':¬wr.heap.size=w.heap.size:=oM;obtain⟨b',o',p',d',s',ap',cp',eb',hb0,ek',_,hppw,g0,_⟩:=Qcd (HL.o w (ext_refl _)) hlt;have hpe:p=p'∧ap=ap'∧cp=cp':=Vad eb' hb0 HX.o ek ek' y0 g0;obtain⟨rfl,rfl,rfl⟩:=hpe;clear ick hpp eb' ek' g0;cases put with
   |true=>
    obtain⟨h1,h2⟩:=Qyz HD.o ek;have HE:=hH h2;simp only at h1;rw[h1] at HOR;clear ek h1 h2 HD;exact Zaf
   |false=>
    rcases Qbw (p,d) (pa,da) with h1|h1|h1
    ·have HE:=hH (Qvs HD.o ek h1);rw[h1] at HOR;clear ek h1 HD;have HMK1:True:=trivial;have HMK2:True:=trivial;go_wp2_with (first
      |(go_at_call 148;go_must ((with_reducible refine(HOR.o _ Qac).mono ?_);rintro e w2 ⟨rfl,hx2⟩;have hz2:=hx2.size;(try simp at hz2);have hb2:=zL hx2 wr.heap.size;obtain⟨q0,q1,q2⟩:=cC3 hx2 (w.heap.size) (.slice aa pa.length ca) (.int .i64 da) (.int .u8 sa.toNat);obtain⟨q3,q4,q5⟩:=cC3 hx2 (wr.heap.size) (.slice ap p.length cp) (.int .i64 d) (.int .u8 s.toNat);have qf0:=fL hx2 (wr.heap.size) (2)))
      |(at_builtin;(clear HMK1);go_must (refine Qaj gAt rfl (.tmp 45) (.tmp 47) 39 rfl wb.heap.size 129 i0 _ 3 40 Tryz.underlying39 HJ.o HZ0.o HZ1.o HZ2.o rfl oM (F:=H) (G:=fun j=>(H j∧j<w.heap.size)∨wr.heap.size≤j) (.slice a5 out.length c5) out rfl (Qai gAt HO.o Qac) _ [((p,d),s)] rfl (Qrr (RSl.more Qap (fun j hj _=>Or.inl hj) (HPP.o _ Qac)) HIC.o asG asG asG (Or.inr ltA) ltA) Qe7 (fun j hj _=>⟨hj.elim (fun h=>h.1) (fun h=>HNH.o j oM),fun e=>by have:=HOL.o j e.symm;rcases hj with h|h;(have h':=h.2;omega);omega⟩) (Qfs hol) (Qn4 hol) ltA ?_;intro v9 w9 hown9 hg9 hat9;obtain⟨a9,n9,c9,rfl⟩:=Qab hown9;have hx9:Ext wb w9:=Qao (ext_trans HXB.o Qac) hg9 (fun j hj=>(HOL.o j hj).1);have HV9:=hH hown9)))
     go_roundw
     case rel=>exact⟨k+1,_,false,oM,by go_num,rfl,HV9,HE,hx9⟩
     case measure=>simp[intOf];omega
    ·have HE:=hH (Qvt (Qix k HSO.o) HD.o ek h1);rw[h1] at HOR;simp only at HE;by_cases hsg:sa<s
     ·have t1:decide (sa.toNat<s.toNat)=true:=decide_eq_true (UInt8.lt_iff_toNat_lt.1 hsg);have t2:decide (((sa.toNat:Nat):Int)<((s.toNat:Nat):Int))=true:=decide_eq_true (Int.ofNat_lt.2 (UInt8.lt_iff_toNat_lt.1 hsg));rw[show mnS s sa=sa from if_pos hsg] at HE;clear ek h1 HD hsg;have HMK1:True:=trivial;have HMK2:True:=trivial;go_wp2_with (first
       |(go_at_call 148;go_must ((with_reducible refine(HOR.o _ Qac).mono ?_);rintro e w2 ⟨rfl,hx2⟩;have hz2:=hx2.size;(try simp at hz2);have hb2:=zL hx2 wr.heap.size;obtain⟨q0,q1,q2⟩:=cC3 hx2 (w.heap.size) (.slice aa pa.length ca) (.int .i64 da) (.int .u8 sa.toNat);obtain⟨q3,q4,q5⟩:=cC3 hx2 (wr.heap.size) (.slice ap p.length cp) (.int .i64 d) (.int .u8 s.toNat);have qf0:=fL hx2 (wr.heap.size) (2)))
       |(at_builtin;(clear HMK1);go_must (refine Qaj gAt rfl (.tmp 45) (.tmp 47) 39 rfl wb.heap.size 129 i0 _ 3 40 Tryz.underlying39 HJ.o HZ0.o HZ1.o HZ2.o rfl oM (F:=H) (G:=fun j=>(H j∧j<w.heap.size)∨wr.heap.size≤j) (.slice a5 out.length c5) out rfl (Qai gAt HO.o Qac) _ [((p,d),sa)] rfl (Qrr (RSl.more Qap (fun j hj _=>Or.inl hj) (HPP.o _ Qac)) HIC.o asG asG asG (Or.inr ltA) ltA) Qe7 (fun j hj _=>⟨hj.elim (fun h=>h.1) (fun h=>HNH.o j oM),fun e=>by have:=HOL.o j e.symm;rcases hj with h|h;(have h':=h.2;omega);omega⟩) (Qfs hol) (Qn4 hol) ltA ?_;intro v9 w9 hown9 hg9 hat9;obtain⟨a9,n9,c9,rfl⟩:=Qab hown9;have hx9:Ext wb w9:=Qao (ext_trans HXB.o Qac) hg9 (fun j hj=>(HOL.o j hj).1);have HV9:=hH hown9)))
      go_roundw
      case rel=>exact⟨k+1,_,true,oM,by go_num,rfl,HV9,HE,hx9⟩
      case measure=>simp[intOf];omega
     ·have t1:decide (sa.toNat<s.toNat)=false:=decide_eq_false (fun h9=>hsg (UInt8.lt_iff_toNat_lt.2 h9));have t2:decide (((sa.toNat:Nat):Int)<((s.toNat:Nat):Int))=false:=decide_eq_false (fun h9=>hsg (UInt8.lt_iff_toNat_lt.2 (Int.ofNat_lt.1 h9)));rw[show mnS s sa=s from if_neg hsg] at HE;clear ek h1 HD hsg;exact Zaf
    ·have HE:=hH (Qyy (Qix k HSO.o) HD.o ek h1);rw[h1] at HOR;have HPQ:=hH (fun(W:World) (hx:Ext w W)=>hppw.ext Qap hx);clear ek h1 HD;have HMK1:True:=trivial;have HMK2:True:=trivial;go_wp2_with (first
      |(go_at_call 148;go_must ((with_reducible refine(HOR.o _ Qac).mono ?_);rintro e w2 ⟨rfl,hx2⟩;have hz2:=hx2.size;(try simp at hz2);have hb2:=zL hx2 wr.heap.size;obtain⟨q0,q1,q2⟩:=cC3 hx2 (w.heap.size) (.slice aa pa.length ca) (.int .i64 da) (.int .u8 sa.toNat);obtain⟨q3,q4,q5⟩:=cC3 hx2 (wr.heap.size) (.slice ap p.length cp) (.int .i64 d) (.int .u8 s.toNat);have qf0:=fL hx2 (wr.heap.size) (2)))
      |(at_builtin;(clear HMK1);go_must (refine Qaj gAt rfl (.tmp 31) (.tmp 33) 39 rfl wb.heap.size 129 i0 _ 3 40 Tryz.underlying39 HJ.o HZ0.o HZ1.o HZ2.o rfl oM (F:=H) (G:=fun j=>(H j∧j<w.heap.size)∨wr.heap.size≤j) (.slice a5 out.length c5) out rfl (Qai gAt HO.o Qac) _ [((pa,da),sa)] rfl (Qrr (RSl.more Qap (fun j hj _=>Or.inl hj) (HPA.o _ (ext_trans HX.o Qac))) HIA.o asG asG asG (Or.inr ltA) ltA) Qe7 (fun j hj _=>⟨hj.elim (fun h=>h.1) (fun h=>HNH.o j oM),fun e=>by have:=HOL.o j e.symm;rcases hj with h|h;(have h':=h.2;omega);omega⟩) (Qfs hol) (Qn4 hol) ltA ?_;intro v8 w8 hown8 hg8 hat8;obtain⟨a8,n8,c8,rfl⟩:=Qab hown8;have HOL8:=hH (Qak hown8);have hx8:Ext wb w8:=Qao (ext_trans HXB.o Qac) hg8 (fun j hj=>(HOL.o j hj).1);have hz8:=hg8.size;(try simp at hz8);have hx8w:Ext w w8:=ext_trans HWB.o hx8;have hb8:wr.heap.size<w8.heap.size:=oM;have r0:=hg8.cell (a:=⟨wr.heap.size,0,none⟩) (v:= .slice ap p.length cp) asG (fun e=>absurd (HOL.o _ e.symm).2 (Nat.lt_irrefl _));have r1:=hg8.cell (a:=⟨wr.heap.size,1,none⟩) (v:= .int .i64 d) asG (fun e=>absurd (HOL.o _ e.symm).2 (Nat.lt_irrefl _));have r2:=hg8.cell (a:=⟨wr.heap.size,2,none⟩) (v:= .int .u8 s.toNat) asG (fun e=>absurd (HOL.o _ e.symm).2 (Nat.lt_irrefl _));have HV8:=hH hown8;clear hown8 hg8 hat8))
      |(at_builtin;(clear HMK2);go_must (refine Qaj gAt rfl (.tmp 45) (.tmp 47) 39 rfl wb.heap.size 129 i0 _ 3 40 Tryz.underlying39 HJ.o HZ0.o HZ1.o HZ2.o rfl oM (F:=H) (G:=fun j=>(H j∧j<w.heap.size)∨w8.heap.size≤j) (.slice a8 n8 c8) (out++[((pa,da),sa)]) rfl (Qai gAt HV8.o Qac) _ [((p,d),s)] rfl (Qrr (RSl.more Qap (fun j hj _=>Or.inl hj) ((HPQ.o _ (ext_trans hx8w Qac)))) HIC.o asG asG asG (Or.inr ltA) ltA) Qe7 (fun j hj _=>⟨hj.elim (fun h=>h.1) (fun h=>HNH.o j oM),fun e=>by have:=HOL8.o j e.symm;rcases hj with h|h;(have h':=h.2;omega);omega⟩) (Qfs hol2) (Qn4 hol2) ltA ?_;intro v9 w9 hown9 hg9 hat9;obtain⟨a9,n9,c9,rfl⟩:=Qab hown9;have hx9:Ext wb w9:=Qao (ext_trans hx8 Qac) hg9 (fun j hj=>(HOL8.o j hj).1);have HV9:=hH hown9)))
     go_roundw
     case rel=>exact⟨k+1,_,true,oM,by go_num,rfl,HV9,HE,hx9⟩
     case measure=>simp[intOf];omega
  ·have hkl:k=l.length:=oM;subst hkl;have HEN:=hH (Qyx HD.o);cases put with
   |true=>
    have HF:=hH (show RSl RAt 3 H wr (.slice a5 out.length c5) (Qh3 l ((pa,da),sa)) by
     have h9:=Qaz gAt HO.o (G:=H) (fun _ h _=>h) (fun k hk=>HNH.o k (by have:=HWB.o.size;omega));have e9:=HEN.o;rw[if_pos rfl] at e9;rw[←e9];exact h9)
    go_wp2
    go_ret;exact⟨_,rfl,HF.o,HX.o⟩
   |false=>
    have e9:=HEN.o;rw[if_neg sI] at e9;have HE9:=hH e9;clear e9 HEN HD;have HMK1:True:=trivial;have HMK2:True:=trivial;go_wp2_with (first
     |(at_builtin;(clear HMK1);go_must (refine Qaj gAt rfl (.tmp 51) (.tmp 53) 39 rfl wb.heap.size 129 i0 _ 3 40 Tryz.underlying39 HJ.o HZ0.o HZ1.o HZ2.o rfl oM (F:=H) (G:=fun j=>(H j∧j<w.heap.size)∨wr.heap.size≤j) (.slice a5 out.length c5) out rfl (Qai gAt HO.o Qac) _ [((pa,da),sa)] rfl (Qrr (RSl.more Qap (fun j hj _=>Or.inl hj) (HPA.o _ (ext_trans HX.o Qac))) HIA.o asG asG asG (Or.inr ltA) ltA) Qe7 (fun j hj _=>⟨hj.elim (fun h=>h.1) (fun h=>HNH.o j oM),fun e=>by have:=HOL.o j e.symm;rcases hj with h|h;(have h':=h.2;omega);omega⟩) (Qfs hol) (Qn4 hol) ltA ?_;intro v9 w9 hown9 hg9 hat9;obtain⟨a9,n9,c9,rfl⟩:=Qab hown9;have hx9:Ext wb w9:=Qao (ext_trans HXB.o Qac) hg9 (fun j hj=>(HOL.o j hj).1);have HV9:=hH hown9)))
    go_ret;exact⟨_,rfl,by rw[←HE9.o];exact Qaz gAt HV9.o (G:=H) (fun _ h _=>h) (fun k hk=>HNH.o k (by have:=HWB.o.size;omega)),ext_trans HWB.o hx9⟩
def Qd8 (w:World) (b:Nat):Prop:=∀o y,w.cell? ⟨b,o,none⟩=some y→∃a n c,y=Value.slice a n c
section
variable {w w':World} {b:Nat}
theorem Qra (h:Qd8 w b) (hx:Ext w w') (hb:b<w.heap.size):Qd8 w' b:=fun o y e=>h o y ((hx.cells b o hb).symm.trans e)
theorem Qsw {a:Addr} {u v:Value} (h:w.cell? a=some u):(w.setCell a v).cell? a=some v:=World.cell?_setCell_same w _ _ h
theorem Qiw {a b:Addr} {v:Value} (h:a≠b):(w.setCell a v).cell? b=w.cell? b:=World.cell?_setCell_other w _ _ _ h
theorem Q7f {b o:Nat} {v:Value} (h:w.cell? ⟨b,o,none⟩=none):(w.setCell ⟨b,o,none⟩ v).cell? ⟨b,o,none⟩=none:=by
 simp only[World.setCell,World.cell?,Array.getElem?_modify,if_true] at h ⊢;cases hh:w.heap[b]? with
 |none=>simp
 |some x=>cases x<;>simp_all
theorem Qje (h:Qd8 w b) (p:Addr) (a:Option Addr) (n c:Nat):Qd8 (w.setCell p (.slice a n c)) b:=fun o y e=>by
 by_cases hp:p=⟨b,o,none⟩
 ·subst hp;cases hc:w.cell? ⟨b,o,none⟩ with
  |none=>rw[Q7f hc] at e;cases e
  |some x=>
   rw[Qsw hc] at e;cases e
   exact⟨a,n,c,rfl⟩
 ·rw[Qiw hp] at e;exact h o y e
theorem Qrb {te:TypeId} {a a':Option Addr} {n c n' c':Nat} (h:w.heap[b]?=some (.cells #[.slice a n c,.slice a' n' c'] te (0,0))):Qd8 w b:=fun o y e=>by
 have:(#[Value.slice a n c,.slice a' n' c']:Array Value)[o]?=some y:=by simpa [World.cell?,h] using e
 match o,this with
 |0,e=>exact⟨_,_,_,(by simpa using e:Value.slice a n c=y).symm⟩
 |1,e=>exact⟨_,_,_,(by simpa using e:Value.slice a' n' c'=y).symm⟩
 |o+2,e=>simp at e
theorem Qux {F:Nat→Prop} {v:Value} {l:List Stp} (hb:Qd8 w b) (h:RSl Qdt 2 F w v l):RSl Qdt 2 (fun j=>F j∧j≠b) w v l:=by
 obtain⟨a,cap,e,h1,h2,h3⟩:=h;refine⟨a,cap,e,h1,h2,fun hne=> ?_⟩;obtain⟨b',o,e2,hF,hl,hx⟩:=h3 hne;have hn:b'≠b:=by
  rintro rfl;obtain⟨x,r,rfl⟩:=List.exists_cons_of_ne_nil hne;obtain⟨cs,_,c2,⟨rfl,_⟩⟩:=hx 0 x rfl;obtain⟨a',n',c',e'⟩:=hb _ _ (c2 0 _ rfl);cases e'
 exact⟨b',o,e2,⟨hF,hn⟩,hl,fun i x hi=>hx i x hi⟩
theorem Zax {p:Prop} (h:p:=by
 obtain⟨a,cap,e,h1,h2,h3⟩:=h;refine⟨a,cap,e,h1,h2,fun hne=> ?_⟩;obtain⟨b',o,e2,hF,hl,hx⟩:=h3 hne;have hn:b'≠b:=by
  rintro rfl;obtain⟨x,r,rfl⟩:=List.exists_cons_of_ne_nil hne;obtain⟨cs,_,c2,⟨u,rfl,_⟩⟩:=hx 0 x rfl;obtain⟨a',n',c',e'⟩:=hb _ _ (c2 1 _ rfl);cases e'
 refine⟨b',o,e2,⟨hF,hn⟩,hl,fun i x hi=> ?_⟩;obtain⟨cs,c1,c2,u,rfl,c3,c4⟩:=hx i x hi;exact⟨_,c1,c2,u,rfl,Qux hb c3,c4⟩):p:=h
theorem Q6j {F:Nat→Prop} {v:Value} {l:List Mk} (hb:Qd8 w b) (h:RSl RMk 2 F w v l):RSl RMk 2 (fun j=>F j∧j≠b) w v l:=by
 exact Zax
theorem Q49 {F:Nat→Prop} {v:Value} {l:List At} (hb:Qd8 w b) (h:RSl RAt 3 F w v l):RSl RAt 3 (fun j=>F j∧j≠b) w v l:=by
 exact Zax
theorem Q07 {F:Nat→Prop} {v:Value} {l:List At} (hb:Qd8 w b) (h:RSl RAt 3 F w v l) (o:Nat) (x:Value):RSl RAt 3 F (w.setCell ⟨b,o,none⟩ x) v l:=
 RSl.more gAt (fun _ h _=>h.1) ((Q49 hb h).keep gAt (Qae Qag (fun _ h=>h.2 rfl) x))
theorem Q24 {F:Nat→Prop} {v:Value} {l:List Mk} (hb:Qd8 w b) (h:RSl RMk 2 F w v l) (o:Nat) (x:Value):RSl RMk 2 F (w.setCell ⟨b,o,none⟩ x) v l:=
 RSl.more gMk (fun _ h _=>h.1) ((Q6j hb h).keep gMk (Qae Qag (fun _ h=>h.2 rfl) x))
end
structure BoxIs (H:Nat→Prop) (b:Nat) (t:St) (W:World) (va vu:Value):Prop where
 c0:W.cell? ⟨b,0,none⟩=some va
 c1:W.cell? ⟨b,1,none⟩=some vu
 fz:∀o,W.frozen? ⟨b,o,none⟩=false
 sl:Qd8 W b
 at_:RSl RAt 3 H W va t.1
 go:RSl RMk 2 H W vu t.2
section
variable {H:Nat→Prop} {b b':Nat} {t:St} {W W':World} {va vu:Value}
theorem BoxIs.lt (h:BoxIs H b t W va vu):b<W.heap.size:=World.block_lt_of_cell? _ _ h.c0
theorem Qc0 (h:BoxIs H b t W va vu) (hx:Ext W W'):BoxIs H b t W' va vu:=
 ⟨(hx.cells _ _ h.lt).trans h.c0,(hx.cells _ _ h.lt).trans h.c1,fun o=>(hx.frz _ _ h.lt).trans (h.fz o),Qra h.sl hx h.lt,h.at_.ext gAt hx,h.go.ext gMk hx⟩
theorem Qfr (h:BoxIs H b t W va vu) (hn:b'≠b) (hs:Qd8 W b') (o:Nat) (a:Option Addr) (n c:Nat):BoxIs H b t (W.setCell ⟨b',o,none⟩ (.slice a n c)) va vu:=by
 have hne:∀k,(⟨b',o,none⟩:Addr)≠⟨b,k,none⟩:=fun k e=>hn (by injection e)
 refine⟨(Qiw (hne 0)).trans h.c0,(Qiw (hne 1)).trans h.c1,fun k=> ?_,Qje h.sl _ _ _ _,Q07 hs h.at_ o _,Q24 hs h.go o _⟩;exact(World.frozen?_of_block (a:=⟨b,k,none⟩) (Below.heap_setCell W ⟨b',o,none⟩ _ b (fun e=>hn e.symm))).trans (h.fz k)
theorem Qnf {a:Option Addr} {n c:Nat} {l:List At} (h:BoxIs H b t W va vu) (hl:RSl RAt 3 H W (.slice a n c) l):BoxIs H b (l,t.2) (W.setCell ⟨b,0,none⟩ (.slice a n c)) (.slice a n c) vu:=by
 refine⟨Qsw h.c0,(Qiw sI).trans h.c1,fun o=> ?_,Qje h.sl _ _ _ _,Q07 h.sl hl 0 _,Q24 h.sl h.go 0 _⟩;have:=h.fz o;go_simp
theorem Q5e {a:Option Addr} {n c:Nat} {l:List Mk} (h:BoxIs H b t W va vu) (hl:RSl RMk 2 H W (.slice a n c) l):BoxIs H b (t.1,l) (W.setCell ⟨b,1,none⟩ (.slice a n c)) va (.slice a n c):=by
 refine⟨(Qiw sI).trans h.c0,Qsw h.c1,fun o=> ?_,Qje h.sl _ _ _ _,Q07 h.sl h.at_ 1 _,Q24 h.sl hl 1 _⟩;have:=h.fz o;go_simp
end
theorem Q0b (l:List At) (ms:List Mk) (k:Nat) (h:l.length≤300):(Qbb (l.take k) ms).length≤1000:=by
 have h1:(Qbb (l.take k) ms).length≤(l.take k).length:=List.length_filter_le _ _;rw[List.length_take] at h1;omega
theorem Q38 {l:List At} {ms:List Mk} {k:Nat} {a:At} (h:l[k]?=some a) (g:Qc5 ms a.1=true):Qbb (l.take (k+1)) ms=Qbb (l.take k) ms:=by rw[Qrd h,g];simp
theorem Q7j {l:List At} {ms:List Mk} {k:Nat} {a:At} (h:l[k]?=some a) (g:Qc5 ms a.1=false):Qbb (l.take (k+1)) ms=Qbb (l.take k) ms++[a]:=by rw[Qrd h,g];simp
theorem Q4a {F G H:Nat→Prop} {w:World} {v u:Value} {l:List At} {ms:List Mk} (h:RSl RAt 3 F w v l) (k0:RSl RMk 2 G w u ms) (hF:∀j,F j→H j) (hN:∀j,w.heap.size≤j→H j) (hl3:l.length≤300):
  Calls Tryz.prog 127 #[v,u] w (Var H (Qbb l ms) w):=by
 have h0:RSl RAt 3 (fun j=>H j∧j<w.heap.size) w v l:=RSl.more gAt (fun j hj hk=>⟨hF j hj,hk⟩) h;have HNH:=hH hN;clear hF hN;have HL:=hH (fun(W:World) (hx:Ext w W)=>h0.ext gAt hx);have HMS:=hH (fun(W:World) (hx:Ext w W)=>k0.ext gMk hx);obtain⟨a0,n0,c0,rfl⟩:=h.slice;obtain rfl:n0=l.length:=h.len.1;obtain⟨a1,n1,c1,rfl⟩:=k0.slice;obtain⟨i0,hi0,hz0,hz1',hz2⟩:=info_parts Qp5;have HJ:=hH hi0;have HZ0:=hH hz0;have HZ1:=hH hz1';have HZ2:=hH hz2;clear h h0 k0 hi0 hz0 hz1' hz2;go_enter Tryz.func127,Tryz.ntmps127;go_wp2
 go_loopw [5,6] (fun ov iv wr=>∃k:Nat,k≤l.length∧iv= .int .i64 k∧Hid (OSl RAt 3 129 w.heap.size H wr ov (Qbb (l.take k) ms))∧Ext w wr) (fun _ iv _=>l.length-(intOf iv).toNat)
 case atStart=>exact⟨0,Nat.zero_le _,rfl,hH Qbn,ext_refl _⟩
 case round=>
  obtain⟨k,hk,rfl,HO,hx⟩:=hrel;have hzr:=hx.size;have HX:=hH hx;clear hx;obtain⟨a5,n5,c5,rfl⟩:=Qab HO.o;by_cases hlt:k<l.length
  ·obtain⟨b,o,p,d,s,ap,cp,rfl,hb,ek,ick,hpp,y0,y1,y2⟩:=Qcd (HL.o wr HX.o) hlt;have HIC:=hH ick;have HPP:=hH (fun(W:World) (hx:Ext wr W)=>hpp.ext Qap hx);have HGG:=hH (fun(W:World) (hx:Ext wr W)=>Qht (HMS.o W (ext_trans HX.o hx)) (Qam (hpp.ext Qap hx) ick));have HOL:=hH (Qak HO.o);cases hh:Qc5 ms (p,d) with
   |true=>
    have HEK:=hH (Q38 ek hh);rw[hh] at HGG;clear ek ick hpp hh;go_wp2_with (go_at_call 61;go_must ((with_reducible refine(HGG.o _ Qac).mono ?_);rintro e w1 ⟨rfl,hx1⟩;skip))
    go_roundw
    case rel=>exact⟨k+1,oM,by go_num,hH (by rw[HEK.o];exact Qai gAt HO.o hx1),ext_trans HX.o hx1⟩
    case measure=>simp[intOf];omega
   |false=>
    have HEK:=hH (Q7j ek hh);have hql:=Q0b l ms k hl3;rw[hh] at HGG;generalize Qbb (l.take k) ms=q at *;obtain rfl:n5=q.length:=(Qa2 HO.o).1;clear ek ick hpp hh;go_wp2_with (first
     |(go_at_call 61;go_must ((with_reducible refine(HGG.o _ Qac).mono ?_);rintro e w1 ⟨rfl,hx1⟩;have hz1:=hx1.size;(try simp at hz1);have hb1:=zL hx1 b;have q0:=cL hx1 (b) (o+k * 3) (.slice ap p.length cp);have q1:=cL hx1 (b) (o+k * 3+1) (.int .i64 d);have q2:=cL hx1 (b) (o+k * 3+2) (.int .u8 s.toNat);have HX1:=hH hx1))
     |(at_builtin;go_must (refine Qaj gAt rfl (.tmp 21) (.tmp 26) 39 rfl w.heap.size 129 i0 _ 3 40 Tryz.underlying39 HJ.o HZ0.o HZ1.o HZ2.o rfl oM (F:=H) (G:=fun j=>(H j∧j<w.heap.size)∨w1.heap.size≤j) (.slice a5 q.length c5) q rfl (Qai gAt HO.o (ext_trans HX1.o Qac)) _ [((p,d),s)] rfl (Qrr (RSl.more Qap (fun j hj _=>Or.inl hj) (HPP.o _ (ext_trans HX1.o Qac))) HIC.o asG asG asG (Or.inr ltA) ltA) Qe7 (fun j hj _=>⟨hj.elim (fun h=>h.1) (fun h=>HNH.o j oM),fun e=>by have:=HOL.o j e.symm;rcases hj with h|h;(have h':=h.2;omega);omega⟩) (Qfs hql) (Qn4 hql) ltA ?_;intro v9 w9 hown9 hg9 hat9;obtain⟨a9,n9,c9,rfl⟩:=Qab hown9;have hx9:Ext w w9:=Qao (ext_trans HX.o (ext_trans HX1.o Qac)) hg9 (fun j hj=>(HOL.o j hj).1);have HV9:=hH hown9)))
    go_roundw
    case rel=>exact⟨k+1,oM,by go_num,hH (by rw[HEK.o];exact HV9.o),hx9⟩
    case measure=>simp[intOf];omega
  ·have hkl:k=l.length:=oM;subst hkl;have HF:=hH (show OSl RAt 3 129 w.heap.size H wr (.slice a5 n5 c5) (Qbb l ms) by have:=HO.o;rwa [List.take_of_length_le (Nat.le_refl _)] at this);go_wp2
   go_ret;exact⟨_,rfl,Qaz gAt HF.o (G:=H) (fun _ h _=>h) (fun k hk=>HNH.o k hk),HX.o⟩
end Go.Proofs.YtgnccjojfebkeaaGreat
namespace Go.Proofs.YtgnccjojfebkeaaGreat
open Go Go.RowKit Cp
theorem Qut {F G:Nat→Prop} {w:World} {cs ds:List Value} {a b:Mk} (ha:RMk F w cs a) (hb:RMk G w ds b):
  Calls Tryz.prog 178 #[.agg cs.toArray,.agg ds.toArray] w fun e w'=>e= .returned (.bool (decide (a.1=b.1)))∧Ext w w':=by
 obtain⟨v,rfl,hl,_⟩:=ha;obtain⟨u,rfl,hm,_⟩:=hb;obtain⟨l,c⟩:=a;obtain⟨m,d⟩:=b;simp only at hl hm ⊢;have e1:decide (l=m)=(Qau (l,0) (m,0)==0):=by
  rw[Bool.eq_iff_iff];simp[ordM_zero]
 rw[e1];have H:=hH (fun(W:World) (hx:Ext w W)=>Qjd (a:=(l,0)) (b:=(m,0)) ⟨v,rfl,hl.ext Qap hx,Qal sI sI⟩ ⟨u,rfl,hm.ext Qap hx,Qal sI sI⟩);clear e1 hl hm;go_enter Tryz.func178,Tryz.ntmps178;go_wp2_with (go_at_call 135;((with_reducible refine(H.out _ Qac).mono ?_);rintro e w1 ⟨rfl,hx1⟩))
 go_ret;exact⟨rfl,Qac⟩
theorem Qox {p:Prop} (h:p:=by
 go_enter Tryz.func117,Tryz.ntmps117;go_wp2_with (first
  |(go_at_call 151;((with_reducible refine(HNA.o _ Qac).mono ?_);rintro e w1 ⟨rfl,hx1⟩;have hc1:=hx1.cells;have hz1:=hx1.size;(try simp at hz1);obtain⟨hb1_0,hb1_1⟩:=zL2 hx1 w.heap.size))
  |(go_at_call 151;((with_reducible refine(HNB.o _ Qac).mono ?_);rintro e w1 ⟨rfl,hx1⟩;have hc1:=hx1.cells;have hz1:=hx1.size;(try simp at hz1);obtain⟨hb1_0,hb1_1⟩:=zL2 hx1 w.heap.size))
  |(go_at_call 147;((with_reducible refine(HCA.o _ Qac).mono ?_);rintro e w1 ⟨rfl,hx1⟩;have hc1:=hx1.cells;have hz1:=hx1.size;(try simp at hz1);obtain⟨hb1_0,hb1_1⟩:=zL2 hx1 w.heap.size))
  |(go_at_call 147;((with_reducible refine(HCB.o _ Qac).mono ?_);rintro e w1 ⟨rfl,hx1⟩;have hc1:=hx1.cells;have hz1:=hx1.size;(try simp at hz1);obtain⟨hb1_0,hb1_1⟩:=zL2 hx1 w.heap.size))
  |(go_at_call 148;((with_reducible refine(HOR.o _ Qac).mono ?_);rintro e w1 ⟨rfl,hx1⟩;have hc1:=hx1.cells;have hz1:=hx1.size;(try simp at hz1);obtain⟨hb1_0,hb1_1⟩:=zL2 hx1 w.heap.size))
  |(go_at_call 178;((with_reducible refine(HSP.o _ Qac).mono ?_);rintro e w1 ⟨rfl,hx1⟩;have hc1:=hx1.cells;have hz1:=hx1.size;(try simp at hz1);obtain⟨hb1_0,hb1_1⟩:=zL2 hx1 w.heap.size))
  |(go_at_call 66;refine(Qas _ _ _ _).mono ?_;rintro e w9 ⟨rfl,rfl⟩))
 all_goals go_ret
 all_goals refine⟨ri ?_,Qac⟩
 all_goals (rw[bE];first|(simp[*];done)|(simp[*]<;>omega))):p:=h
theorem Qm6 {F G:Nat→Prop} {w:World} {cs ds:List Value} {a b:Mk} {site clock many:Int} (ha:RMk F w cs a) (hb:RMk G w ds b) (hc:I64 clock) (hm:I64 many):
  Calls Tryz.prog 117 #[.agg cs.toArray,.agg ds.toArray,.int .i64 site,.int .i64 clock,.int .i64 many] w fun e w'=>e= .returned (.int .i64 (Qa5 a b site clock many))∧Ext w w':=by
 have HNA:=hH (fun(W:World) (hx:Ext w W)=>Qnn (gMk.ext ha hx));have HNB:=hH (fun(W:World) (hx:Ext w W)=>Qnn (gMk.ext hb hx));have HCA:=hH (fun(W:World) (hx:Ext w W)=>Qcm (gMk.ext ha hx));have HCB:=hH (fun(W:World) (hx:Ext w W)=>Qcm (gMk.ext hb hx));have HOR:=hH (fun(W:World) (hx:Ext w W)=>Qes (gMk.ext ha hx) (gMk.ext hb hx));have HSP:=hH (fun(W:World) (hx:Ext w W)=>Qut (gMk.ext ha hx) (gMk.ext hb hx));obtain⟨v,rfl,hl,_⟩:=ha;obtain⟨u,rfl,hmm,_⟩:=hb;obtain⟨l,c⟩:=a;obtain⟨m,d⟩:=b;simp only at hl hmm ⊢;obtain⟨a1,n1,c1,rfl⟩:=hl.slice;obtain⟨a2,n2,c2,rfl⟩:=hmm.slice;obtain⟨rfl,_,_⟩:=hl.len;obtain⟨rfl,_,_⟩:=hmm.len;clear hl hmm;cases g1:inB clock 1 10000 with
 |false=>
  clear hc hm;exact Qox
 |true=>
  cases g2:inB many 1 60 with
  |false=>
   clear hc hm;exact Qox
  |true=>
   have hb1:1≤clock∧clock≤10000:=by unfold inB at g1;simpa using g1
   have hb2:1≤many∧many≤60:=by unfold inB at g2;simpa using g2
   obtain⟨b1,b2⟩:=hb1;obtain⟨b3,b4⟩:=hb2;clear hc hm;exact Qox
end Go.Proofs.YtgnccjojfebkeaaGreat
