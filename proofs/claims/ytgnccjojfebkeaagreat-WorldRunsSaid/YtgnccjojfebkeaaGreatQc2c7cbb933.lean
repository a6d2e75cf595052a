/- The table of all rests, from the ends on: the walk. -/
import Derived.Test.YtgnccjojfebkeaaGreatQd9fe7e2782
import Derived.Test.YtgnccjojfebkeaaGreatQ9e39e26c84
import Derived.Test.YtgnccjojfebkeaaGreatQ453a98ae2d
import Derived.RegionTactic
import Derived.BigRegion
set_option linter.unusedVariables false
set_option linter.unusedSimpArgs false
set_option maxRecDepth 100000
set_option maxHeartbeats 8000000
namespace Go.Proofs.YtgnccjojfebkeaaGreat
open Go Go.RowKit Go.BigFrame Cp
theorem Q2o:(Tryz.prog.info? 43).map (fun i=>(i.zero,i.size,i.bytes))=some (some (.slice none 0 0),1,24):=kR
theorem Q2z {P:Program} {t e:TypeId} {i:TypeInfo} {z:Value} (ht:P.underlying t=some (.slice e)) (hi:P.info? e=some i) (hz:i.zero=some z) (h1:i.size=1) (n:Nat) (hb:i.bytes≤24) (hn:n≤300) (W:World):
  (Instr.makeSlice t (.int .i64 ((n:Int)+1)) (.int .i64 ((n:Int)+1))).run P W= .ok (.slice (some ⟨W.heap.size,0,none⟩) (n+1) (n+1)) (W.alloc (.cells (madeCells z.cells (n+1)) e)):=by
 have h2:(i.bytes:Int) * ((n:Int)+1)≤24 * 301:=Int.mul_le_mul oM oM oM oM;have h:=run_make (P:=P) W t e i z ht hi hz .i64 .i64 ((n:Int)+1) ((n:Int)+1) oM (Int.le_refl _) oM oM;rw[h,h1];have e1:((n:Int)+1).toNat=n+1:=oM;rw[e1,Nat.mul_one]
structure D3 (W:World) (D:Nat) (s u:ByteArray) (G n:Nat):Prop where
 a:W.cell? ⟨D,0,none⟩=some (.string s)
 b:W.cell? ⟨D,1,none⟩=some (.string u)
 c:W.cell? ⟨D,2,none⟩=some (.slice (some ⟨G,0,none⟩) (n+1) (n+1))
 lt:D<W.heap.size
theorem D3.keep {W W':World} {D:Nat} {s u:ByteArray} {G n:Nat} (h:D3 W D s u G n) (hs:W.heap.size≤W'.heap.size) (hb:W'.heap[D]?=W.heap[D]?):D3 W' D s u G n:=
 ⟨(World.cell?_of_block (w:=W) (a:=⟨D,0,none⟩) hb).trans h.a,(World.cell?_of_block (w:=W) (a:=⟨D,1,none⟩) hb).trans h.b,(World.cell?_of_block (w:=W) (a:=⟨D,2,none⟩) hb).trans h.c,Nat.lt_of_lt_of_le h.lt hs⟩
theorem Q2g {W:World} {G n m k e:Nat} {g:Nat→Nat} (h:Half W G n m k g) (hk:k≤n):
  Half ((W.setCell ⟨G,k,none⟩ (.slice (some ⟨W.heap.size,0,none⟩) (m+1) (m+1))).alloc (.cells (madeCells #[.int .i64 0] (m+1)) e)).drew G n m (k+1) (fun i=>if i=k then W.heap.size else g i):=by
 have h1:=h.step (e:=e) hk;rw[World.setCell_alloc_past (hn:=h.lt)] at h1;exact h1.keep (Nat.le_refl _) (fun _ _ _=>rfl)
theorem Q9c {W:World} {D G k n:Nat} {s u:ByteArray} {v:Value} {o:Obj} (h:D3 W D s u G n) (hD:D<G):D3 ((W.setCell ⟨G,k,none⟩ v).alloc o).drew D s u G n:=
 h.keep (show W.heap.size≤((W.setCell ⟨G,k,none⟩ v).alloc o).heap.size by simp) ((Below.heap_alloc (W.setCell ⟨G,k,none⟩ v) o D (by simpa using h.lt)).trans (Below.heap_setCell W ⟨G,k,none⟩ v D (by first|exact Nat.ne_of_lt hD|exact Nat.ne_of_gt hD)))
theorem Q2h {w:World} {D n m e:Nat} {v:Value} (hD:D<w.heap.size):Half ((w.setCell ⟨D,2,none⟩ v).alloc (.cells (madeCells #[.slice none 0 0] (n+1)) e)) w.heap.size n m 0 (fun _=>0):=by
 have h:=Qy7 (w:=w.setCell ⟨D,2,none⟩ v) (n:=n) (m:=m) (e:=e) rfl;rw[World.size_setCell] at h;exact h
theorem Qyd {W:World} {G n m:Nat} {g:Nat→Nat} {f:Nat→Nat→Int} (h:Tab W G n m g f):Tab W.drew G n m g f:=h.keep (Nat.le_refl _) (fun _ _=>rfl)
theorem Quy {W:World} {G n m k:Nat} {g:Nat→Nat} {f:Nat→Nat→Int} (h:Tab W G n m g f):Tab (W.drewN k) G n m g f:=h.ext (ext_drewN (ext_refl _) _)
theorem Vbg {W:World} {D b k G n:Nat} {s u:ByteArray} {v:Value} (h:D3 W D s u G n) (hD:¬D=b):D3 (W.setCell ⟨b,k,none⟩ v).drew D s u G n:=
 h.keep (show W.heap.size≤(W.setCell ⟨b,k,none⟩ v).heap.size by simp) (Below.heap_setCell W ⟨b,k,none⟩ v D hD)
theorem Vbh {W:World} {D b k G n:Nat} {s u:ByteArray} {v:Value} (h:D3 W D s u G n) (hD:¬D=b):D3 (W.setCell ⟨b,k,none⟩ v) D s u G n:=
 h.keep (show W.heap.size≤(W.setCell ⟨b,k,none⟩ v).heap.size by simp) (Below.heap_setCell W ⟨b,k,none⟩ v D hD)
theorem Qxa {W W':World} {D G n:Nat} {s u:ByteArray} (h:D3 W D s u G n) (hx:Ext W W'):D3 W' D s u G n:=h.keep hx.size (Below.block hx D h.lt)
def Qgg (s u:ByteArray) (i k:Nat):Int:=(lcs (s.data.toList.drop i) (u.data.toList.drop k):Nat)
theorem Qwc (s u:ByteArray) (i k:Nat) (hs:s.size≤300):0≤Qgg s u i k∧Qgg s u i k≤300:=by
 have h:=(Qxi (s.data.toList.drop i) (u.data.toList.drop k)).1;have h2:(s.data.toList.drop i).length=s.size-i:=by rw[List.length_drop,Array.length_toList];rfl
 unfold Qgg;omega
theorem Q2u {s u:ByteArray} {r t:Nat} (hr:r<s.size) (ht:t<u.size):Qgg s u r t=if s[r]=u[t] then 1+Qgg s u (r+1) (t+1) else max (Qgg s u (r+1) t) (Qgg s u r (t+1)):=by
 unfold Qgg;have e1:s.data.toList.drop r=s[r]::s.data.toList.drop (r+1):=List.drop_eq_getElem_cons (by simpa using hr);have e2:u.data.toList.drop t=u[t]::u.data.toList.drop (t+1):=List.drop_eq_getElem_cons (by simpa using ht);rw[e1,e2,Qxh];split
 ·omega
 ·rw[←e1,←e2];omega
theorem Q31 {s u:ByteArray} {n m r t:Nat} {f:Nat→Nat→Int} {X:Int} (hX:X=Qgg s u r t)
  (hf:∀i j,i≤n→j≤m→¬(i=r∧j=t)→f i j=if r+1≤i then Qgg s u i j else if i=r∧t+1≤j then Qgg s u i j else 0):
  ∀i j,i≤n→j≤m→(if r+1≤i then Qgg s u i j else if i=r∧t≤j then Qgg s u i j else 0)=if i=r∧j=t then X else f i j:=by
 intro i j hi hj;by_cases h:i=r∧j=t
 ·rw[show(if i=r∧j=t then X else f i j)=X from if_pos h,hX,h.1,h.2,if_neg oM,if_pos ⟨rfl,Nat.le_refl _⟩]
 ·rw[show(if i=r∧j=t then X else f i j)=f i j from if_neg h,hf i j hi hj h];by_cases h1:r+1≤i
  ·rw[if_pos h1,if_pos h1]
  ·rw[if_neg h1,if_neg h1];by_cases h2:i=r∧t+1≤j
   ·rw[if_pos h2,if_pos ⟨h2.1,oM⟩]
   ·rw[if_neg h2,if_neg oM]
def Vcq (w0 w:World) (D:Nat) (s u:ByteArray) (e:Ending) (w':World):Prop:=
 e= .returned (.tuple #[])∧Ext w0 w'∧∃g,D3 w' D s u w.heap.size s.size∧Tab w' w.heap.size s.size u.size g (Qgg s u)
theorem Q33 {w0 w:World} {D:Nat} {s u:ByteArray} {v0:Value} (hw0:Ext w0 w) (hD0:w0.heap.size≤D) (hD:D<w.heap.size) (h0:w.cell? ⟨D,0,none⟩=some (.string s)) (h1:w.cell? ⟨D,1,none⟩=some (.string u))
  (h2:w.cell? ⟨D,2,none⟩=some v0) (hf:w.frozen? ⟨D,2,none⟩=false) (hs:s.size≤300) (hu:u.size≤300):
  Calls Tryz.prog 214 #[.pointer (some ⟨D,0,none⟩)] w (Vcq w0 w D s u):=by
 obtain⟨i0,hi0,hz0,hz1,hz2⟩:=info_parts Q2o;obtain⟨i1,hi1,hy0,hy1,hy2⟩:=info_parts Qni;have hmk1:=Q2z Tryz.underlying259 hi0 hz0 hz1 s.size oM hs;have hmk2:=Q2z Tryz.underlying43 hi1 hy0 hy1 u.size oM hu;have hcz:(Value.slice none 0 0).cells=#[.slice none 0 0]:=rfl;have hcy:(Value.int .i64 0).cells=#[.int .i64 0]:=rfl;rw[hcz] at hmk1;rw[hcy] at hmk2;have HM1:=hH hmk1;have HM2:=hH hmk2;have HW0:=hH hw0;clear hi0 hz0 hz1 hz2 hi1 hy0 hy1 hy2 hcz hcy hmk1 hmk2 hw0;have hmk:=HM1.o;go_enter Tryz.func214,Tryz.ntmps214;go_wp2_with fail
 clear hmk;go_loopw [20] (fun ix wr=>∃(k:Nat) (g:Nat→Nat),k≤s.size+1∧ix= .int .i64 k∧Hid (Half wr w.heap.size s.size u.size k g)∧Hid (D3 wr D s u w.heap.size s.size)∧Ext w0 wr) (fun ix _=>s.size+1-(intOf ix).toNat)
 case atStart=>exact⟨0,_,oM,rfl,Q2h hD,⟨gS,gS,gS,sP⟩,ext_alloc (ext_set HW0.o hD0 _) _⟩
 case round=>
  obtain⟨k,g,hk,rfl,HH,HD,hx⟩:=hrel;have HX:=hH hx;clear hx;have d0:=HD.o.a;have d1:=HD.o.b;have d2:=HD.o.c;have hGl:=HH.o.lt;have hDl:=HD.o.lt;by_cases hlt:k≤s.size
  ·have c0:=HH.o.nils k (Nat.le_refl _) hlt;have f0:=HH.o.fro k hlt;have hmk:=HM2.o;have hw1:IntKind.i64.wrap ((u.size:Int)+1)=(u.size:Int)+1:=IntWalk.i64_in _ oM;go_wp2_with fail
   go_region
   clear hmk hw1;go_wp2_with fail
   go_roundw
   case rel=>exact⟨k+1,_,oM,by go_num,Q2g HH.o hlt,Q9c HD.o hD,ext_drew (ext_alloc (ext_set HX.o (by simp only[];omega) _) _)⟩
   case measure=>simp[intOf]<;>omega
  ·obtain rfl:k=s.size+1:=oM;have HT:=hH (HH.o.tab.same (f':=fun i j=>if s.size≤i then Qgg s u i j else 0) (fun i j hi hj=>by split;(· unfold Qgg;rw[List.drop_eq_nil_of_le (by simpa using ‹s.size≤i›)];simp[lcs]);(· rfl)));have HGL:=hH hGl;clear HH;rw[show((s.size+1:Nat):Int)=(s.size:Int)+1 from by omega];go_wp2_with fail
   go_loopw [3] (fun i wr=>∃p:Nat,p≤s.size∧i= .int .i64 ((p:Int)-1)∧Hid (Tab wr w.heap.size s.size u.size g (fun i j=>if p≤i then Qgg s u i j else 0))∧Hid (D3 wr D s u w.heap.size s.size)∧Ext w0 wr) (fun i _=>(intOf i+1).toNat)
   case atStart=>exact⟨s.size,Nat.le_refl _,rfl,HT.o,HD.o,HX.o⟩
   case round=>
    obtain⟨p,hp,rfl,HT,HD,hx⟩:=hrel;obtain⟨wo,rfl⟩:∃wo:World,wo=wr:=⟨_,rfl⟩;have HX:=hH hx;clear hx;have d0:=HD.o.a;have d1:=HD.o.b;have hDl:=HD.o.lt;by_cases hp0:p=0
    ·subst hp0;have HT0:=hH (HT.o.same (f':=Qgg s u) (fun i j _ _=>by rw[if_pos (Nat.zero_le _)]));go_wp2_with fail
     go_end0
     exact⟨rfl,HX.o,g,HD.o,HT0.o⟩
    ·obtain⟨r,rfl⟩:∃r,p=r+1:=⟨p-1,oM⟩;rw[show((r+1:Nat):Int)-1=(r:Int) by omega];have HT1:=hH (HT.o.same (f':=fun i j=>if r+1≤i then Qgg s u i j else if i=r∧u.size≤j then Qgg s u i j else 0) (fun i j hi hj=>by by_cases h1:r+1≤i;(· rw[if_pos h1,if_pos h1]);(· rw[if_neg h1,if_neg h1];split;(· rename_i h9;unfold Qgg;rw[show u.data.toList.drop j=[] from List.drop_eq_nil_of_le (by simpa using h9.2),Q2v];rfl);(· rfl))));clear HT;go_wp2_with fail
     go_loopw [4] (fun k wr=>∃q:Nat,q≤u.size∧k= .int .i64 ((q:Int)-1)∧Hid (Tab wr w.heap.size s.size u.size g (fun i j=>if r+1≤i then Qgg s u i j else if i=r∧q≤j then Qgg s u i j else 0))∧Hid (D3 wr D s u w.heap.size s.size)∧Ext w0 wr) (fun k _=>(intOf k+1).toNat)
     case atStart=>exact⟨u.size,Nat.le_refl _,rfl,HT1.o,HD.o,HX.o⟩
     case round=>
      obtain⟨q,hq,rfl,HT,HD,hx⟩:=hrel;have HX:=hH hx;clear hx;have d0:=HD.o.a;have d1:=HD.o.b;have d2:=HD.o.c;have hDl:=HD.o.lt;by_cases hq0:q=0
      ·subst hq0;have HT0:=hH (HT.o.same (f':=fun i j=>if r≤i then Qgg s u i j else 0) (fun i j _ _=>by by_cases h1:r+1≤i;(· rw[if_pos h1,if_pos oM]);(· rw[if_neg h1];by_cases h2:i=r;(· rw[if_pos ⟨h2,Nat.zero_le _⟩,if_pos oM]);(· rw[if_neg (fun h=>h2 h.1),if_neg oM]))));go_wp2_with fail
       go_roundw
       case rel=>exact⟨r,oM,by go_num,HT0.o,HD.o,HX.o⟩
       case measure=>simp[intOf]<;>omega
      ·obtain⟨t,rfl⟩:∃t,q=t+1:=⟨q-1,oM⟩;rw[show((t+1:Nat):Int)-1=(t:Int) by omega];have hr1:r<s.size:=oM;have ht1:t<u.size:=oM;have hrow:=HT.o.row r oM;have hrow1:=HT.o.row (r+1) oM;obtain⟨nA,_⟩:=HT.o.num (r+1) t oM oM;obtain⟨nB,_⟩:=HT.o.num r (t+1) oM oM;obtain⟨nC,_⟩:=HT.o.num (r+1) (t+1) oM oM;obtain⟨n0,f0⟩:=HT.o.num r t oM oM;rw[if_pos oM] at nA nC;rw[if_neg oM,if_pos oM] at nB;rw[if_neg oM,if_neg oM] at n0;have hls:=Q2u (s:=s) (u:=u) (r:=r) (t:=t) oM oM;have bA:=Qwc s u (r+1) t hs;have bB:=Qwc s u r (t+1) hs;have bC:=Qwc s u (r+1) (t+1) hs;have hne:¬g (r+1)=g r:=fun e=>absurd (HT.o.inj (r+1) r oM oM e) oM
       have HPUT:=hH (fun(W:World) (f:Nat→Nat→Int) (hT:Tab W w.heap.size s.size u.size g f) (hf:∀i j,i≤s.size→j≤u.size→¬(i=r∧j=t)→f i j=if r+1≤i then Qgg s u i j else if i=r∧t+1≤j then Qgg s u i j else 0) (X:Int) (hX:X=Qgg s u r t)=>
        hT.put (r:=r) (k:=t) (x:=X) (f':=fun i j=>if r+1≤i then Qgg s u i j else if i=r∧t≤j then Qgg s u i j else 0) oM oM (Q31 hX hf))
       obtain⟨hg1,hg2⟩:=HT.o.off r oM;generalize Qgg s u (r+1) t=vA at *;generalize Qgg s u r (t+1)=vB at *;obtain⟨vC,hvc⟩:∃vC:Int,Qgg s u (r+1) (t+1)=vC:=⟨_,rfl⟩;have HVC:=hH hvc;rw[hvc] at hls bC nC;clear hvc;generalize Qgg s u r t=vD at *;have HLS:=hH hls;clear hls;have hn1:¬g (r+1)=g r:=hne;have hn2:¬w.heap.size=g r:=oM;have hn3:¬D=g r:=oM;clear hne;obtain⟨a1,a2⟩:=bA;obtain⟨b1,b2⟩:=bB;obtain⟨e1,e2⟩:=bC;have HHT:=hH HT.o;have hw1:IntKind.i64.wrap ((r:Int)+1)=(r:Int)+1:=IntWalk.i64_in _ oM;have hw2:IntKind.i64.wrap ((t:Int)+1)=(t:Int)+1:=IntWalk.i64_in _ oM;go_wp2_with fail
       refine Qa4 32 fol kR (fun W hW=> ?_);subst hW;simp only[List.take_succ_cons,List.take_zero,List.drop_succ_cons,List.drop_zero];repeat(go_big_quiet_step (fail))
       refine wpQuiet_nil ?_;go_wp2_with fail
       all_goals
        refine Qad (fun w1 ew=> ?_);obtain⟨X1,hX1,ew1⟩:∃X1:Int,X1=max vA vB∧w1=(wr.setCell ⟨g r,t,none⟩ (.int .i64 X1)).drew:=⟨_,oM,ew⟩;have HT1:=Qyd (HHT.o.put (r:=r) (k:=t) (x:=X1) (f':=fun i j=>if i=r∧j=t then X1 else if r+1≤i then Qgg s u i j else if i=r∧t+1≤j then Qgg s u i j else 0) oM oM (fun _ _ _ _=>rfl));have HD1:D3 w1 D s u w.heap.size s.size:=by rw[ew1];exact Vbg HD.o hn3
        have HX1:Ext w0 w1:=by rw[ew1];exact ext_drew (ext_set HX.o (show w0.heap.size≤g r by omega) _)
        have HTF:=hH (fun(hX:X1=vD)=>Qyd (HPUT.o wr _ HHT.o (fun _ _ _ _ _=>rfl) X1 hX));rw[←ew1] at HT1 HTF;clear ew ew1;have hrow':=HT1.row r oM;have hrow1':=HT1.row (r+1) oM;obtain⟨nC',_⟩:=HT1.num (r+1) (t+1) oM oM;obtain⟨n0',f0'⟩:=HT1.num r t oM oM;rw[if_neg oM,if_pos oM] at nC';have HEC:=hH (show Qgg s u (r+1) (t+1)=vC from HVC.o);rw[HEC.o] at nC';have HHT1:=hH HT1;have HHD1:=hH HD1;have HHX1:=hH HX1;have c0:=HD1.a;have c1:=HD1.b;have c2:=HD1.c;clear HT1 HD1 HX1;by_cases g2:s[r]=u[t]
        ·have t2:((s[r].toNat:Int)==(u[t].toNat:Int))=true:=by rw[g2];simp
         have hvd:vD=1+vC:=by rw[HLS.o,if_pos g2]
         have HVD:=hH hvd;clear g2 hvd;go_quiet (fail)
         go_wp2_with fail
         refine Qa4 22 fol kR (fun W hW=> ?_);subst hW;simp only[List.take_succ_cons,List.take_zero,List.drop_succ_cons,List.drop_zero];repeat(go_big_quiet_step (fail))
         refine wpQuiet_nil ?_;go_wp2_with fail
         go_roundw
         case rel=>exact⟨t,oM,rfl,HPUT.o _ _ (Quy HHT1.o) (fun _ _ _ _ h=>if_neg h) _ HVD.o.symm,Vbh (Qxa HHD1.o (ext_drewN (ext_refl _) _)) hn3,ext_set (ext_drewN HHX1.o _) (show w0.heap.size≤g r by omega) _⟩
         case measure=>simp[intOf]<;>omega
        ·have t2:((s[r].toNat:Int)==(u[t].toNat:Int))=false:=by
          rw[beq_eq_false_iff_ne];intro h;apply g2;apply UInt8.toNat_inj.1;omega
         have hvd:vD=max vA vB:=by rw[HLS.o,if_neg g2]
         have HVD:=hH (show X1=vD by omega);clear g2 hvd;go_quiet (fail)
         go_wp2_with fail
         go_roundw
         case rel=>exact⟨t,oM,rfl,Quy (HTF.o HVD.o),Qxa HHD1.o (ext_drewN (ext_refl _) _),ext_drewN HHX1.o _⟩
         case measure=>simp[intOf]<;>omega
theorem Qos:(Tryz.prog.info? 152).map (fun i=>(i.zero,i.size,i.bytes))=some (some (.agg #[.int .i64 0,.int .i64 0,.int .i64 0,.string ⟨#[]⟩]),4,40):=kR
theorem Qzf:∀F G w w' cs (x:Edt),REd F w cs x→REd G w' cs x:=fun _ _ _ _ _ _ h=>h
theorem Qua:∀F w cs (y:Edt),REd F w cs y→∀u∈cs,u.oneCell'=true:=by
 rintro F w cs y ⟨s,rfl,_,_,_,hx,_⟩ u hu;subst hx;simp at hu;rcases hu with rfl|rfl|rfl|rfl<;>rfl
theorem Qns {w:World} {b o:Nat} {x y z u:Value} (h0:w.cell? ⟨b,o,none⟩=some x) (h1:w.cell? ⟨b,o+1,none⟩=some y) (h2:w.cell? ⟨b,o+2,none⟩=some z) (h3:w.cell? ⟨b,o+3,none⟩=some u):w.rangeAt b o [x,y,z,u]:=by
 intro j v hv
 match j,hv with
 |0,hv=>(have:x=v:=(by simpa using hv);subst this;exact h0)
 |1,hv=>(have:y=v:=(by simpa using hv);subst this;exact h1)
 |2,hv=>(have:z=v:=(by simpa using hv);subst this;exact h2)
 |3,hv=>(have:u=v:=(by simpa using hv);subst this;exact h3)
theorem Q8h {F:Nat→Prop} {W:World} {a b c:Int} {t:Tx} (ha:I64 a) (hb:I64 b) (hc:I64 c) (ht:t.length≤140737488351232):REd F W [.int .i64 a,.int .i64 b,.int .i64 c,.string ⟨t.toArray⟩] ⟨a,b,c,t⟩:=⟨_,rfl,ha,hb,hc,rfl,ht⟩
def Vaq (w0 w:World) (O base:Nat) (v:Value) (l:List Edt) (e:Ending) (w':World):Prop:=
 e= .returned (.tuple #[])∧Ext w0 w'∧Keeps (fun b=>b≠O∧some b≠v.ownBlock) w w'∧
  ∃v',w'.cell? ⟨O,0,none⟩=some v'∧w'.frozen? ⟨O,0,none⟩=false∧OSl REd 4 152 base (fun _=>True) w' v' l∧(v'.ownBlock=v.ownBlock∨∃g,v'.ownBlock=some g∧w.heap.size≤g)
theorem Qpz {base:Nat} {w:World} {a:Option Addr} {n c:Nat} {l:List Edt} (h:OSl REd 4 152 base (fun _=>True) w (.slice a n c) l) {i:Nat} {x:Edt} (hx:l[i]?=some x):
  ∃g,n=l.length∧a=some ⟨g,0,none⟩∧base≤g∧g<w.heap.size∧I64 x.kind∧I64 x.at_∧I64 x.many∧x.text.length≤140737488351232∧w.cell? ⟨g,i * 4,none⟩=some (.int .i64 x.kind)∧w.cell? ⟨g,i * 4+1,none⟩=some (.int .i64 x.at_)∧
   w.cell? ⟨g,i * 4+2,none⟩=some (.int .i64 x.many)∧w.cell? ⟨g,i * 4+3,none⟩=some (.string ⟨x.text.toArray⟩)∧∀o,w.frozen? ⟨g,o,none⟩=false:=by
 obtain⟨hi,_⟩:=List.getElem?_eq_some_iff.1 hx;obtain⟨g,y,cs,e1,e2,e3,e4,e5,_,hr,⟨s,rfl,k1,k2,k3,rfl,k5⟩,hf⟩:=Qlb h hi;rw[hx] at e5;have:x=y:=by simpa using e5
 subst this;exact⟨g,e1,e2,e3,e4,k1,k2,k3,k5,by simpa using hr 0 _ rfl,hr 1 _ rfl,hr 2 _ rfl,hr 3 _ rfl,hf⟩
theorem own_some {g n c:Nat}:(Value.slice (some ⟨g,0,none⟩) n c).ownBlock=some g:=by simp[Value.ownBlock]
theorem Q4h {w0 w:World} {O base:Nat} {v:Value} {out:List Edt} {k c:Int} (hw0:Ext w0 w) (hO0:w0.heap.size≤O) (hOb:O<base) (hbase:base≤w.heap.size) (hc:w.cell? ⟨O,0,none⟩=some v) (hf:w.frozen? ⟨O,0,none⟩=false)
  (hown:OSl REd 4 152 base (fun _=>True) w v out) (hk:0≤k∧k≤1000) (hl:out.length≤1000) (hm:∀e∈out,0≤e.many∧e.many≤1000):
  Calls Tryz.prog 236 #[.int .i64 k,.int .u8 c,.pointer (some ⟨O,0,none⟩)] w (Vaq w0 w O base v (Qbc out k)):=by
 obtain⟨i0,hi0,hz0,hz1,hz2⟩:=info_parts Qos;have HI:=hH hi0;have HZ0:=hH hz0;have HZ1:=hH hz1;have HZ2:=hH hz2;clear hi0 hz0 hz1 hz2;obtain⟨k1,k2⟩:=hk;have hOw:O<w.heap.size:=oM;have HOL:=hH (Qak hown);have HW0:=hH hw0;have hOwn:=hH hown;obtain⟨a,n,cp,rfl⟩:=Qab hown;obtain⟨hn,hcap1,hcap2⟩:=Qa2 hown;have HNO:=hH (show some O≠(Value.slice a n cp).ownBlock from fun e=>by have:=(HOL.o O e.symm).1;omega);have HR:=hH (fun(W:World)=>Q8h (F:=fun _=>False) (W:=W) (a:=2) (b:=k) (c:=0) (t:=[]) (by unfold I64;omega) (by unfold I64;omega) (by unfold I64;omega) sI);clear hw0;rcases List.eq_nil_or_concat out with rfl|⟨q,e,rfl⟩
 ·have HT:Hid (Qbc [] k=[⟨2,k,1,[]⟩]):=rfl;obtain rfl:n=0:=hn;clear hown hm;rw[HT.o];go_enter Tryz.func236,Tryz.ntmps236;go_wp2_with (at_builtin;go_must (refine Qds gEd rfl (.tmp 20) (.tmp 23) 145 rfl base 152 i0 _ 4 40 Tryz.underlying145 HI.o HZ0.o HZ1.o HZ2.o rfl oM (F:=fun _=>True) (G:=fun _=>False) (.slice a 0 cp) ([]:List Edt) rfl (Qai gEd hOwn.out (ext_alloc (ext_refl _) _)) w.heap.size 0 1 [.int .i64 2,.int .i64 k,.int .i64 0,.string ⟨#[]⟩] ⟨2,k,0,[]⟩ rfl rfl (Qns gS gS gS gS) (Qua _ w _ _ (HR.o w)) (HR.o _) (fun j hj _=>hj.elim) (by first|(simp[maxLen];done)|(simp only[maxLen,List.length_append,List.length_cons,List.length_nil];omega)) (by first|(simp;done)|(simp only[List.length_append,List.length_cons,List.length_nil];omega)) sP ?_;intro v9 w9 hown9 hg9 hat9;obtain⟨a9,n9,c9,rfl⟩:=Qab hown9;obtain⟨g9,hn9e,rfl,hb9,hs9,_,_,_,_,y0,y1,y2,y3,fr9⟩:=Qpz hown9 (i:=0) (x:=⟨2,k,0,[]⟩) sI;obtain rfl:n9=1:=(by rw[hn9e];simp);clear hn9e;have o9:=(World.cell?_of_block (a:=⟨O,0,none⟩) (hg9.block O sP HNO.o)).trans (show _=some (.slice a 0 cp) by go_simp);have of9:=(World.frozen?_of_block (a:=⟨O,0,none⟩) (hg9.block O sP HNO.o)).trans (show _=false by go_simp);have f9:=fr9 (2);have HY:=hH hown9;have HG:=hH hg9;have HAT:=hH hat9;have hn9:¬g9=O:=oM;have hn9':¬O=g9:=oM;have hz9:=hg9.size;clear hown9 hg9 hat9 fr9;(try simp at y2)))
  go_end0
  refine⟨rfl,ext_set (ext_set (Qd5 (ext_alloc HW0.o _) HG.o (fun j hj=>by have:=(HOL.o j hj).1;omega)) hO0 _) (show w0.heap.size≤g9 by omega) _,Qae (Qae ⟨Nat.le_trans sI HG.o.size,fun j hj hlt=>(HG.o.block j sP hj.2).trans (Below.heap_alloc w _ j hlt)⟩ (fun _ h=>h.1 rfl) _) (fun hlt h=>by rcases HAT.o with h1|h1;(· exact h.2 (h1▸own_some.symm));(· rw[own_some] at h1;injection h1 with h1;simp at h1;have hlt2:g9<w.heap.size:=hlt;omega)) _,.slice (some ⟨g9,0,none⟩) 1 c9,gS,gS,?_,?_⟩
  ·have h9:=Qf4 gEd (Qhx Qzf (p:=⟨O,0,none⟩) (fun e=>hn9' e) HY.o (.slice (some ⟨g9,0,none⟩) 1 c9)) (i:=0) (j:=2) sI oM (u:= .int .i64 1) (x:=⟨2,k,1,[]⟩) (fun G W cs y hy hr=>by
    simp at hy;subst hy;obtain⟨s,rfl,h1,h2,h3,h4⟩:=hr;exact⟨s,rfl,h1,h2,(show -9223372036854775808≤(1:Int)∧(1:Int)≤9223372036854775807 by omega),h4⟩)
   simpa using h9
  ·rcases HAT.o with h1|h1
   ·exact .inl h1
   ·exact .inr ⟨_,h1,sI⟩
 ·rw[List.concat_eq_append] at *;have hel:(q++[e])[q.length]?=some e:=sI;obtain⟨g, -,rfl,hg1,hg2,ik,ia,im,it,z0,z1,z2,z3,hfr⟩:=Qpz hown hel;obtain⟨m1,m2⟩:=hm e sI;have hq:(q++[e]).length=q.length+1:=sI;obtain rfl:n=q.length+1:=hn.trans hq;have HQ:=hH hq;rw[hq] at hl;have tq:decide ((q.length:Int)<0)=false:=decide_eq_false oM;have f2:=hfr (q.length * 4+2);by_cases h0:e.at_=k
  ·have HT:=hH (show Qbc (q++[e]) k=q++[{e with many:=e.many+1}] by simp[Qbc,h0]);have t0:(e.at_ !=k)=false:=by simpa using h0
   have HPUT:=hH (Qf4 gEd hOwn.out (i:=q.length) (j:=2) sI oM (u:= .int .i64 (e.many+1)) (x:={e with many:=e.many+1}) (fun G W cs y hy hr=>by
    rw[hel] at hy;have:e=y:=by simpa using hy
    subst this;obtain⟨s,rfl,h1,h2,h3,h4⟩:=hr;exact⟨s,rfl,h1,h2,(show -9223372036854775808≤e.many+1∧e.many+1≤9223372036854775807 by omega),h4⟩))
   clear h0 hown hm hel hq hfr hn;rw[HT.o];go_enter Tryz.func236,Tryz.ntmps236;go_wp2_with fail
   go_end0
   refine⟨rfl,ext_set HW0.o (show w0.heap.size≤g by omega) _,Qae Qag (fun _ h=>h.2 rfl) _,_,gS,gS,?_,.inl rfl⟩;have h9:=HPUT.o;simp only[List.set_append_right,Nat.le_refl,Nat.sub_self,List.set_cons_zero] at h9;exact h9
  ·have HT:=hH (show Qbc (q++[e]) k=(q++[e])++[⟨2,k,1,[]⟩] by simp[Qbc,h0]);have t0:(e.at_ !=k)=true:=by simpa using h0
   clear h0 hown hm hel hfr hn hq;rw[HT.o];go_enter Tryz.func236,Tryz.ntmps236;go_wp2_with (at_builtin;go_must (refine Qds gEd rfl (.tmp 20) (.tmp 23) 145 rfl base 152 i0 _ 4 40 Tryz.underlying145 HI.o HZ0.o HZ1.o HZ2.o rfl oM (F:=fun _=>True) (G:=fun _=>False) (.slice (some ⟨g,0,none⟩) (q.length+1) cp) (q++[e]) rfl (Qai gEd hOwn.out (ext_alloc (ext_refl _) _)) w.heap.size 0 1 [.int .i64 2,.int .i64 k,.int .i64 0,.string ⟨#[]⟩] ⟨2,k,0,[]⟩ rfl rfl (Qns gS gS gS gS) (Qua _ w _ _ (HR.o w)) (HR.o _) (fun j hj _=>hj.elim) (by first|(simp[maxLen];done)|(simp only[maxLen,List.length_append,List.length_cons,List.length_nil];omega)) (by first|(simp;done)|(simp only[List.length_append,List.length_cons,List.length_nil];omega)) sP ?_;intro v9 w9 hown9 hg9 hat9;obtain⟨a9,n9,c9,rfl⟩:=Qab hown9;obtain⟨g9,hn9e,rfl,hb9,hs9,_,_,_,_,y0,y1,y2,y3,fr9⟩:=Qpz hown9 (i:=(q.length+1)) (x:=⟨2,k,0,[]⟩) sI;obtain rfl:n9=q.length+1+1:=(by rw[hn9e];simp);clear hn9e;have o9:=(World.cell?_of_block (a:=⟨O,0,none⟩) (hg9.block O sP HNO.o)).trans (show _=some (.slice (some ⟨g,0,none⟩) (q.length+1) cp) by go_simp);have of9:=(World.frozen?_of_block (a:=⟨O,0,none⟩) (hg9.block O sP HNO.o)).trans (show _=false by go_simp);have f9:=fr9 ((q.length+1) * 4+2);have HY:=hH hown9;have HG:=hH hg9;have HAT:=hH hat9;have hn9:¬g9=O:=oM;have hn9':¬O=g9:=oM;have hz9:=hg9.size;clear hown9 hg9 hat9 fr9;skip))
   go_end0
   refine⟨rfl,ext_set (ext_set (Qd5 (ext_alloc HW0.o _) HG.o (fun j hj=>by have:=(HOL.o j hj).1;omega)) hO0 _) (show w0.heap.size≤g9 by omega) _,Qae (Qae ⟨Nat.le_trans sI HG.o.size,fun j hj hlt=>(HG.o.block j sP hj.2).trans (Below.heap_alloc w _ j hlt)⟩ (fun _ h=>h.1 rfl) _) (fun hlt h=>by rcases HAT.o with h1|h1;(· exact h.2 (h1▸own_some.symm));(· rw[own_some] at h1;injection h1 with h1;simp at h1;have hlt2:g9<w.heap.size:=hlt;omega)) _,.slice (some ⟨g9,0,none⟩) (q.length+1+1) c9,gS,gS,?_,?_⟩
   ·have h9:=Qf4 gEd (Qhx Qzf (p:=⟨O,0,none⟩) (fun e=>hn9' e) HY.o (.slice (some ⟨g9,0,none⟩) (q.length+1+1) c9)) (i:=(q.length+1)) (j:=2) sI oM (u:= .int .i64 1) (x:=⟨2,k,1,[]⟩) (fun G W cs y hy hr=>by
     simp at hy;subst hy;obtain⟨s,rfl,h1,h2,h3,h4⟩:=hr;exact⟨s,rfl,h1,h2,(show -9223372036854775808≤(1:Int)∧(1:Int)≤9223372036854775807 by omega),h4⟩)
    simpa using h9
   ·rcases HAT.o with h1|h1
    ·exact .inl h1
    ·exact .inr ⟨_,h1,sI⟩
theorem Q5x {c:UInt8} (h:Qdm c=true):Utf8.encode (c.toNat:Int)=⟨#[c]⟩:=by
 unfold Qdm at h;simp only[Bool.and_eq_true,decide_eq_true_eq] at h;have hv:Utf8.valid (c.toNat:Int)=true:=by unfold Utf8.valid;simp;omega
 unfold Utf8.encode;simp only[hv,if_true];rw[if_pos oM];simp
theorem Vcc (tb:ByteArray) (c:UInt8):tb++⟨#[c]⟩=⟨(tb.data.toList++[c]).toArray⟩:=by
 apply ByteArray.ext
 simp only[ByteArray.data_append];apply Array.ext'
 simp
theorem Qxl {p:Prop} (h:p:=by
 go_enter Tryz.func237,Tryz.ntmps237;go_wp2_with fail
 go_quiet (fail)
 clear hww;generalize ewq:w.drewN nq=wq;have hxq:Ext w wq:=by rw[←ewq];exact ext_drewN (ext_refl _) _
 clear ewq;have hcq:=(hxq.cells O 0 hOw).trans hc;have hfq:=(hxq.frz O 0 hOw).trans hf;have hOq:O<wq.heap.size:=(by have:=hxq.size;omega);have hszq:=hxq.size;have z3q:=(hxq.cells g (q.length * 4+3) hg2).trans z3;have f3q:=(hxq.frz g (q.length * 4+3) hg2).trans f3;clear z0 z1 z2 z3 f3;clear hc hf;have HXQ:=hH hxq;clear hxq;go_wp2_with (at_builtin;go_must (refine Qds gEd rfl (.tmp 36) (.tmp 39) 145 rfl base 152 i0 _ 4 40 Tryz.underlying145 HI.o HZ0.o HZ1.o HZ2.o rfl oM (F:=fun _=>True) (G:=fun _=>False) (.slice (some ⟨g,0,none⟩) (q.length+1) cp) (q++[(⟨kd,pl,mn,tb.data.toList⟩:Edt)]) rfl (Qai gEd hOwn.out (ext_alloc HXQ.o _)) wq.heap.size 0 1 [.int .i64 1,.int .i64 k,.int .i64 0,.string ⟨#[]⟩] ⟨1,k,0,[]⟩ rfl rfl (Qns gS gS gS gS) (Qua _ w _ _ (HR.o w)) (HR.o _) (fun j hj _=>hj.elim) (by first|(simp[maxLen];done)|(simp only[maxLen,List.length_append,List.length_cons,List.length_nil];omega)) (by first|(simp;done)|(simp only[List.length_append,List.length_cons,List.length_nil];omega)) sP ?_;intro v9 w9 hown9 hg9 hat9;obtain⟨a9,n9,c9,rfl⟩:=Qab hown9;obtain⟨g9,hn9e,rfl,hb9,hs9,_,_,_,_,y0,y1,y2,y3,fr9⟩:=Qpz hown9 (i:=(q.length+1)) (x:=⟨1,k,0,[]⟩) sI;obtain rfl:n9=(q.length+1+1):=(by rw[hn9e];simp);clear hn9e;have o9:=(World.cell?_of_block (a:=⟨O,0,none⟩) (hg9.block O sP HNO.o)).trans (show _=some (.slice (some ⟨g,0,none⟩) (q.length+1) cp) by go_simp);have of9:=(World.frozen?_of_block (a:=⟨O,0,none⟩) (hg9.block O sP HNO.o)).trans (show _=false by go_simp);have f9:=fr9 ((q.length+1) * 4+3);have HY:=hH hown9;have HG:=hH hg9;have HAT:=hH hat9;have hn9:¬g9=O:=oM;have hn9':¬O=g9:=oM;have hz9:=hg9.size;clear hown9 hg9 hat9 fr9;(try simp only[Nat.zero_mul,Nat.zero_add] at y3 f9);replace y3:=(show w9.cell? ⟨g9,(q.length+1) * 4+3,none⟩=some (.string ⟨#[]⟩) from y3)))
 go_end0
 refine⟨rfl,ext_set (ext_set (Qd5 (ext_alloc (ext_trans HW0.o HXQ.o) _) HG.o (fun j hj=>by have:=(HOL.o j hj).1;omega)) hO0 _) (show w0.heap.size≤g9 by omega) _,Qae (Qae ⟨Nat.le_trans (Nat.le_trans hszq sI) HG.o.size,fun j hj hlt=>(HG.o.block j sP hj.2).trans ((Below.heap_alloc _ _ j oM).trans (Below.block HXQ.o j hlt))⟩ (fun _ h=>h.1 rfl) _) (fun hlt h=>by rcases HAT.o with h1|h1;(· exact h.2 (h1▸own_some.symm));(· rw[own_some] at h1;injection h1 with h1;simp at h1;have hlt2:g9<w.heap.size:=hlt;omega)) _,.slice (some ⟨g9,0,none⟩) (q.length+1+1) c9,gS,gS,?_,?_⟩
 ·have h9:=Qf4 gEd (Qhx Qzf (p:=⟨O,0,none⟩) (fun e=>hn9' e) HY.o (.slice (some ⟨g9,0,none⟩) (q.length+1+1) c9)) (i:=(q.length+1)) (j:=3) sI oM (u:= .string ⟨#[c]⟩) (x:=⟨1,k,0,[c]⟩) (fun G W cs y hy hr=>by
   simp at hy;subst hy;obtain⟨s,rfl,h1,h2,h3,h4⟩:=hr;exact⟨_,rfl,h1,h2,h3,rfl,sI⟩)
  simpa using h9
 ·rcases HAT.o with h1|h1
  ·exact .inl h1
  ·exact .inr ⟨_,h1,sP⟩):p:=h
theorem Q67 {w0 w:World} {O base:Nat} {v:Value} {out:List Edt} {k:Int} {c:UInt8} (hw0:Ext w0 w) (hO0:w0.heap.size≤O) (hOb:O<base) (hbase:base≤w.heap.size) (hc:w.cell? ⟨O,0,none⟩=some v) (hf:w.frozen? ⟨O,0,none⟩=false)
  (hown:OSl REd 4 152 base (fun _=>True) w v out) (hk:0≤k∧k≤1000) (hl:out.length≤1000) (hm:∀e∈out,0≤e.at_∧e.at_≤1000∧e.text.length≤60) (hs:Qdm c=true):
  Calls Tryz.prog 237 #[.int .i64 k,.int .u8 (c.toNat:Int),.pointer (some ⟨O,0,none⟩)] w (Vaq w0 w O base v (Qcs out k c)):=by
 obtain⟨i0,hi0,hz0,hz1,hz2⟩:=info_parts Qos;have HI:=hH hi0;have HZ0:=hH hz0;have HZ1:=hH hz1;have HZ2:=hH hz2;clear hi0 hz0 hz1 hz2;obtain⟨k1,k2⟩:=hk;have hOw:O<w.heap.size:=oM;have HOL:=hH (Qak hown);have HW0:=hH hw0;have hOwn:=hH hown;obtain⟨a,n,cp,rfl⟩:=Qab hown;obtain⟨hn,hcap1,hcap2⟩:=Qa2 hown;have HNO:=hH (show some O≠(Value.slice a n cp).ownBlock from fun e=>by have:=(HOL.o O e.symm).1;omega);have HR:=hH (fun(W:World)=>Q8h (F:=fun _=>False) (W:=W) (a:=1) (b:=k) (c:=0) (t:=[]) (by unfold I64;omega) (by unfold I64;omega) (by unfold I64;omega) sI);have henc:=Q5x hs;have hemp:(⟨#[]⟩:ByteArray)++⟨#[c]⟩=⟨#[c]⟩:=by apply ByteArray.ext;simp[ByteArray.data_append]
 have hTX:=hH (fun tb=>Vcc tb c);clear hw0 hs;rcases List.eq_nil_or_concat out with rfl|⟨q,e,rfl⟩
 ·have HT:Hid (Qcs [] k c=[⟨1,k,0,[c]⟩]):=rfl;obtain rfl:n=0:=hn;clear hown hm;rw[HT.o];go_enter Tryz.func237,Tryz.ntmps237;go_wp2_with fail
  go_quiet (fail)
  generalize ewq:w.drewN nq=wq;have hxq:Ext w wq:=by rw[←ewq];exact ext_drewN (ext_refl _) _
  clear ewq;have hcq:=(hxq.cells O 0 hOw).trans hc;have hfq:=(hxq.frz O 0 hOw).trans hf;have hOq:O<wq.heap.size:=(by have:=hxq.size;omega);have hszq:=hxq.size;clear hc hf;have HXQ:=hH hxq;clear hxq;go_wp2_with (at_builtin;go_must (refine Qds gEd rfl (.tmp 36) (.tmp 39) 145 rfl base 152 i0 _ 4 40 Tryz.underlying145 HI.o HZ0.o HZ1.o HZ2.o rfl oM (F:=fun _=>True) (G:=fun _=>False) (.slice a 0 cp) ([]:List Edt) rfl (Qai gEd hOwn.out (ext_alloc HXQ.o _)) wq.heap.size 0 1 [.int .i64 1,.int .i64 k,.int .i64 0,.string ⟨#[]⟩] ⟨1,k,0,[]⟩ rfl rfl (Qns gS gS gS gS) (Qua _ w _ _ (HR.o w)) (HR.o _) (fun j hj _=>hj.elim) (by first|(simp[maxLen];done)|(simp only[maxLen,List.length_append,List.length_cons,List.length_nil];omega)) (by first|(simp;done)|(simp only[List.length_append,List.length_cons,List.length_nil];omega)) sP ?_;intro v9 w9 hown9 hg9 hat9;obtain⟨a9,n9,c9,rfl⟩:=Qab hown9;obtain⟨g9,hn9e,rfl,hb9,hs9,_,_,_,_,y0,y1,y2,y3,fr9⟩:=Qpz hown9 (i:=0) (x:=⟨1,k,0,[]⟩) sI;obtain rfl:n9=1:=(by rw[hn9e];simp);clear hn9e;have o9:=(World.cell?_of_block (a:=⟨O,0,none⟩) (hg9.block O sP HNO.o)).trans (show _=some (.slice a 0 cp) by go_simp);have of9:=(World.frozen?_of_block (a:=⟨O,0,none⟩) (hg9.block O sP HNO.o)).trans (show _=false by go_simp);have f9:=fr9 (0 * 4+3);have HY:=hH hown9;have HG:=hH hg9;have HAT:=hH hat9;have hn9:¬g9=O:=oM;have hn9':¬O=g9:=oM;have hz9:=hg9.size;clear hown9 hg9 hat9 fr9;(try simp only[Nat.zero_mul,Nat.zero_add] at y3 f9);replace y3:=(show w9.cell? ⟨g9,3,none⟩=some (.string ⟨#[]⟩) from y3)))
  go_end0
  refine⟨rfl,ext_set (ext_set (Qd5 (ext_alloc (ext_trans HW0.o HXQ.o) _) HG.o (fun j hj=>by have:=(HOL.o j hj).1;omega)) hO0 _) (show w0.heap.size≤g9 by omega) _,Qae (Qae ⟨Nat.le_trans (Nat.le_trans hszq sI) HG.o.size,fun j hj hlt=>(HG.o.block j sP hj.2).trans ((Below.heap_alloc _ _ j oM).trans (Below.block HXQ.o j hlt))⟩ (fun _ h=>h.1 rfl) _) (fun hlt h=>by rcases HAT.o with h1|h1;(· exact h.2 (h1▸own_some.symm));(· rw[own_some] at h1;injection h1 with h1;simp at h1;have hlt2:g9<w.heap.size:=hlt;omega)) _,.slice (some ⟨g9,0,none⟩) 1 c9,gS,gS,?_,?_⟩
  ·have h9:=Qf4 gEd (Qhx Qzf (p:=⟨O,0,none⟩) (fun e=>hn9' e) HY.o (.slice (some ⟨g9,0,none⟩) 1 c9)) (i:=0) (j:=3) sI oM (u:= .string ⟨#[c]⟩) (x:=⟨1,k,0,[c]⟩) (fun G W cs y hy hr=>by
    simp at hy;subst hy;obtain⟨s,rfl,h1,h2,h3,h4⟩:=hr;exact⟨_,rfl,h1,h2,h3,rfl,sI⟩)
   simpa using h9
  ·rcases HAT.o with h1|h1
   ·exact .inl h1
   ·exact .inr ⟨_,h1,sP⟩
 ·rw[List.concat_eq_append] at *;obtain⟨kd,pl,mn,tx⟩:=e;obtain⟨tb,rfl⟩:∃tb:ByteArray,tx=tb.data.toList:=⟨⟨tx.toArray⟩,sI⟩;have hel:(q++[(⟨kd,pl,mn,tb.data.toList⟩:Edt)])[q.length]?=some ⟨kd,pl,mn,tb.data.toList⟩:=sI;obtain⟨g, -,rfl,hg1,hg2,ik,ia,im,it,z0,z1,z2,z3,hfr⟩:=Qpz hown hel;obtain⟨m1,m2,m3⟩:=hm ⟨kd,pl,mn,tb.data.toList⟩ sI;simp only at m1 m2 m3 z0 z1 z2 z3 ik ia im it;rw[Qww] at z3;have hbs:tb.data.toList.length=tb.size:=sI;have HBS:=hH hbs;rw[hbs] at m3;have hq:(q++[(⟨kd,pl,mn,tb.data.toList⟩:Edt)]).length=q.length+1:=sI;obtain rfl:n=q.length+1:=hn.trans hq;rw[hq] at hl;have tq:decide ((q.length:Int)<0)=false:=decide_eq_false oM;have f3:=hfr (q.length * 4+3);have hww:IntKind.i64.wrap (pl+(tb.size:Int))=pl+(tb.size:Int):=IntWalk.i64_in _ oM;by_cases h0:pl+(tb.size:Int)=k
  ·by_cases h6:tb.size=60
   ·have HT:=hH (show Qcs (q++[(⟨kd,pl,mn,tb.data.toList⟩:Edt)]) k c=(q++[(⟨kd,pl,mn,tb.data.toList⟩:Edt)])++[⟨1,k,0,[c]⟩] by simp[Qcs,HBS.o,h6]);have t0:(pl+(tb.size:Int) !=k)=false:=by simpa using h0
    have t1:((tb.size:Int)==60)=true:=by rw[h6];rfl
    clear h0 h6 hown hm hel hfr hn hq hbs;rw[HT.o];exact Qxl
   ·have HT:=hH (show Qcs (q++[(⟨kd,pl,mn,tb.data.toList⟩:Edt)]) k c=q++[⟨kd,pl,mn,tb.data.toList++[c]⟩] by simp only[Qcs,List.getLast?_append,List.getLast?_singleton,Option.some_or];rw[if_pos ⟨by rw[HBS.o];exact h0,by rw[HBS.o];exact h6⟩];simp);have t0:(pl+(tb.size:Int) !=k)=false:=by simpa using h0
    have t1:((tb.size:Int)==60)=false:=by rw[beq_eq_false_iff_ne];omega
    have HPUT:=hH (fun(W:World) (hW:Ext w W)=>Qf4 gEd (Qai gEd hOwn.out hW) (i:=q.length) (j:=3) sI oM (u:= .string (tb++⟨#[c]⟩)) (x:=⟨kd,pl,mn,tb.data.toList++[c]⟩) (fun G W cs y hy hr=>by
     rw[hel] at hy;have:=Option.some.inj hy;subst this;obtain⟨s,rfl,h1,h2,h3,h4⟩:=hr;exact⟨_,rfl,h1,h2,h3,congrArg Value.string (hTX.out tb),by simp only[List.length_append,List.length_cons,List.length_nil,HBS.o];omega⟩))
    clear h0 h6 hown hm hel hq hfr hn hbs;rw[HT.o];go_enter Tryz.func237,Tryz.ntmps237;go_wp2_with fail
    go_quiet (fail)
    clear hww;generalize ewq:w.drewN nq=wq;have hxq:Ext w wq:=by rw[←ewq];exact ext_drewN (ext_refl _) _
    clear ewq;have hcq:=(hxq.cells O 0 hOw).trans hc;have hfq:=(hxq.frz O 0 hOw).trans hf;have hOq:O<wq.heap.size:=(by have:=hxq.size;omega);have hszq:=hxq.size;have z3q:=(hxq.cells g (q.length * 4+3) hg2).trans z3;have f3q:=(hxq.frz g (q.length * 4+3) hg2).trans f3;clear z0 z1 z2 z3 f3;clear hc hf;have HXQ:=hH hxq;clear hxq;go_wp2_with fail
    go_end0
    refine⟨rfl,ext_set (ext_trans HW0.o HXQ.o) (show w0.heap.size≤g by omega) _,Qae (Qdq Qag HXQ.o) (fun _ h=>h.2 rfl) _,_,gS,gS,?_,.inl rfl⟩;have h9:=HPUT.o _ HXQ.o;simp only[List.set_append_right,Nat.le_refl,Nat.sub_self,List.set_cons_zero] at h9;exact h9
  ·have HT:=hH (show Qcs (q++[(⟨kd,pl,mn,tb.data.toList⟩:Edt)]) k c=(q++[(⟨kd,pl,mn,tb.data.toList⟩:Edt)])++[⟨1,k,0,[c]⟩] by simp only[Qcs,List.getLast?_append,List.getLast?_singleton,Option.some_or];rw[if_neg (fun h=>h0 (by have h1:=h.1;rw[HBS.o] at h1;exact h1))]);have t0:(pl+(tb.size:Int) !=k)=true:=by simpa using h0
   clear h0 hown hm hel hfr hn hq hbs;rw[HT.o];exact Qxl
structure WInv (w0 W:World) (D O C base G:Nat) (s u:ByteArray) (g:Nat→Nat) (out come:List Edt) (vo vc:Value):Prop where
 ext:Ext w0 W
 d3:D3 W D s u G s.size
 tab:Tab W G s.size u.size g (Qgg s u)
 co:W.cell? ⟨O,0,none⟩=some vo
 fo:W.frozen? ⟨O,0,none⟩=false
 oo:OSl REd 4 152 base (fun _=>True) W vo out
 cc:W.cell? ⟨C,0,none⟩=some vc
 fc:W.frozen? ⟨C,0,none⟩=false
 oc:OSl REd 4 152 base (fun _=>True) W vc come
 sep:∀b,vo.ownBlock=some b→vc.ownBlock≠some b
 bs:base≤W.heap.size
structure WPos (w0:World) (D O C base G n:Nat) (g:Nat→Nat):Prop where
 o0:w0.heap.size≤O
 c0:w0.heap.size≤C
 oc:O≠C
 ob:O<base
 cb:C<base
 db:D<base
 gb:G<base
 rb:∀i,i≤n→g i<base
 od:O≠D
 cd:C≠D
 og:O≠G
 cg:C≠G
 orow:∀i,i≤n→O≠g i
 crow:∀i,i≤n→C≠g i
theorem WInv.same {w0 W W':World} {D O C base G:Nat} {s u:ByteArray} {g:Nat→Nat} {out come:List Edt} {vo vc:Value} (h:WInv w0 W D O C base G s u g out come vo vc) (hx:Ext W W') (p:WPos w0 D O C base G s.size g):WInv w0 W' D O C base G s u g out come vo vc:=by
 have hO:O<W.heap.size:=Nat.lt_of_lt_of_le p.ob h.bs;have hC:C<W.heap.size:=Nat.lt_of_lt_of_le p.cb h.bs;exact⟨ext_trans h.ext hx,Qxa h.d3 hx,h.tab.ext hx,(hx.cells O 0 hO).trans h.co,(hx.frz O 0 hO).trans h.fo,Qai gEd h.oo hx,(hx.cells C 0 hC).trans h.cc,(hx.frz C 0 hC).trans h.fc,Qai gEd h.oc hx,h.sep,Nat.le_trans h.bs hx.size⟩
theorem Qxy {base:Nat} {W:World} {v:Value} {l:List Edt} (h:OSl REd 4 152 base (fun _=>True) W v l) {b:Nat} (hb:b<base):some b≠v.ownBlock:=fun e=>by have:=(Qak h b e.symm).1;omega
def Va2 (w0:World) (D O C base G:Nat) (s u:ByteArray) (g:Nat→Nat) (out come:List Edt) (vc:Value) (e:Ending) (W':World):Prop:=e= .returned (.tuple #[])∧∃vo',WInv w0 W' D O C base G s u g out come vo' vc
def Q41 (w0:World) (D O C base G:Nat) (s u:ByteArray) (g:Nat→Nat) (out come:List Edt) (vo:Value) (e:Ending) (W':World):Prop:=e= .returned (.tuple #[])∧∃vc',WInv w0 W' D O C base G s u g out come vo vc'
theorem Vcg {w0 W:World} {D O C base G:Nat} {s u:ByteArray} {g:Nat→Nat} {out come:List Edt} {vo vc:Value} {k c:Int} (h:WInv w0 W D O C base G s u g out come vo vc) (p:WPos w0 D O C base G s.size g)
  (hk:0≤k∧k≤1000) (hl:out.length≤1000) (hm:∀e∈out,0≤e.many∧e.many≤1000):
  Calls Tryz.prog 236 #[.int .i64 k,.int .u8 c,.pointer (some ⟨O,0,none⟩)] W (Va2 w0 D O C base G s u g (Qbc out k) come vc):=by
 refine(Q4h h.ext p.o0 p.ob h.bs h.co h.fo h.oo hk hl hm).mono ?_;rintro e W' ⟨rfl,hx,hkp,vo',h1,h2,h3,h4⟩;have hb:∀b,b<base→b≠O→W'.heap[b]?=W.heap[b]?:=fun b hb hne=>hkp.block b ⟨hne,Qxy h.oo hb⟩ (Nat.lt_of_lt_of_le hb h.bs)
 have hbv:∀b,vc.ownBlock=some b→W'.heap[b]?=W.heap[b]?:=fun b hb=>hkp.block b ⟨by have:=(Qak h.oc b hb).1;have:=p.ob;omega,fun e=>h.sep b e.symm hb⟩ (Qak h.oc b hb).2
 refine⟨rfl,vo',hx,h.d3.keep hkp.size (hb D p.db p.od.symm),h.tab.keep hkp.size ?_,h1,h2,h3,(World.cell?_of_block (w:=W) (a:=⟨C,0,none⟩) (hb C p.cb p.oc.symm)).trans h.cc,(World.frozen?_of_block (w:=W) (a:=⟨C,0,none⟩) (hb C p.cb p.oc.symm)).trans h.fc,Qe8 Qzf h.oc hbv,?_,Nat.le_trans h.bs hkp.size⟩
 ·rintro b (rfl|⟨i,hi,rfl⟩)
  ·exact hb _ p.gb p.og.symm
  ·exact hb _ (p.rb i hi) (p.orow i hi).symm
 ·intro b hb1 hb2;rcases h4 with h4|⟨g4,h4,h5⟩
  ·exact h.sep b (h4▸hb1) hb2
  ·rw[h4] at hb1;injection hb1 with hb1
   have:=(Qak h.oc b hb2).2;omega
theorem Vdr {w0 W:World} {D O C base G:Nat} {s u:ByteArray} {g:Nat→Nat} {out come:List Edt} {vo vc:Value} {k:Int} {c:UInt8} (h:WInv w0 W D O C base G s u g out come vo vc) (p:WPos w0 D O C base G s.size g)
  (hk:0≤k∧k≤1000) (hl:come.length≤1000) (hm:∀e∈come,0≤e.at_∧e.at_≤1000∧e.text.length≤60) (hs:Qdm c=true):
  Calls Tryz.prog 237 #[.int .i64 k,.int .u8 (c.toNat:Int),.pointer (some ⟨C,0,none⟩)] W (Q41 w0 D O C base G s u g out (Qcs come k c) vo):=by
 refine(Q67 h.ext p.c0 p.cb h.bs h.cc h.fc h.oc hk hl hm hs).mono ?_;rintro e W' ⟨rfl,hx,hkp,vc',h1,h2,h3,h4⟩;have hb:∀b,b<base→b≠C→W'.heap[b]?=W.heap[b]?:=fun b hb hne=>hkp.block b ⟨hne,Qxy h.oc hb⟩ (Nat.lt_of_lt_of_le hb h.bs)
 have hbv:∀b,vo.ownBlock=some b→W'.heap[b]?=W.heap[b]?:=fun b hb=>hkp.block b ⟨by have:=(Qak h.oo b hb).1;have:=p.cb;omega,fun e=>h.sep b hb e.symm⟩ (Qak h.oo b hb).2
 refine⟨rfl,vc',hx,h.d3.keep hkp.size (hb D p.db p.cd.symm),h.tab.keep hkp.size ?_,(World.cell?_of_block (w:=W) (a:=⟨O,0,none⟩) (hb O p.ob p.oc)).trans h.co,(World.frozen?_of_block (w:=W) (a:=⟨O,0,none⟩) (hb O p.ob p.oc)).trans h.fo,Qe8 Qzf h.oo hbv,h1,h2,h3,?_,Nat.le_trans h.bs hkp.size⟩
 ·rintro b (rfl|⟨i,hi,rfl⟩)
  ·exact hb _ p.gb p.cg.symm
  ·exact hb _ (p.rb i hi) (p.crow i hi).symm
 ·intro b hb1 hb2;rcases h4 with h4|⟨g4,h4,h5⟩
  ·exact h.sep b hb1 (h4▸hb2)
  ·rw[h4] at hb2;injection hb2 with hb2
   have:=(Qak h.oo b hb1).2;omega
def Q43 (out:List Edt) (i:Nat):Prop:=out.length≤i∧∀e∈out,0≤e.many∧e.many≤i
def Qs4 (come:List Edt) (k:Nat):Prop:=come.length≤k∧∀e∈come,0≤e.at_∧e.at_≤1000∧e.text.length≤60
theorem Q4d {out:List Edt} {i:Nat} {k:Int} (h:Q43 out i):Q43 (Qbc out k) (i+1):=by
 obtain⟨h1,h2⟩:=h;rcases List.eq_nil_or_concat out with rfl|⟨q,e,rfl⟩
 ·exact⟨by simp[Qbc],by simp[Qbc];omega⟩
 ·rw[List.concat_eq_append] at *;have hq:q.length+1≤i:=by simpa using h1
  have he:=h2 e sI;by_cases h0:e.at_=k
  ·have HT:Qbc (q++[e]) k=q++[{e with many:=e.many+1}]:=by simp[Qbc,h0]
   rw[HT];refine⟨sP,fun x hx=> ?_⟩;rcases List.mem_append.1 hx with hx|hx
   ·have:=h2 x (by simp[hx]);omega
   ·have:x={e with many:=e.many+1}:=by simpa using hx
    subst this;simp only;omega
  ·have HT:Qbc (q++[e]) k=(q++[e])++[⟨2,k,1,[]⟩]:=by simp[Qbc,h0]
   rw[HT];refine⟨sP,fun x hx=> ?_⟩;rcases List.mem_append.1 hx with hx|hx
   ·have:=h2 x hx;omega
   ·have:x=⟨2,k,1,[]⟩:=by simpa using hx
    subst this;simp only;omega
theorem Q8g {come:List Edt} {i:Nat} {k:Int} {c:UInt8} (h:Qs4 come i) (hk:0≤k∧k≤1000):Qs4 (Qcs come k c) (i+1):=by
 obtain⟨h1,h2⟩:=h;have hnew:Qs4 (come++[⟨1,k,0,[c]⟩]) (i+1):=by
  refine⟨sP,fun x hx=> ?_⟩;rcases List.mem_append.1 hx with hx|hx
  ·exact h2 x hx
  ·have:x=⟨1,k,0,[c]⟩:=by simpa using hx
   subst this;exact⟨hk.1,hk.2,sI⟩
 rcases List.eq_nil_or_concat come with rfl|⟨q,e,rfl⟩
 ·exact hnew
 ·rw[List.concat_eq_append] at *;have hq:q.length+1≤i:=by simpa using h1
  have he:=h2 e sI;by_cases h0:e.at_+e.text.length=k∧e.text.length≠60
  ·have HT:Qcs (q++[e]) k c=q++[{e with text:=e.text++[c]}]:=by simp only[Qcs,List.getLast?_append,List.getLast?_singleton,Option.some_or];rw[if_pos h0];simp
   rw[HT];refine⟨sP,fun x hx=> ?_⟩;rcases List.mem_append.1 hx with hx|hx
   ·exact h2 x (by simp[hx])
   ·have:x={e with text:=e.text++[c]}:=by simpa using hx
    subst this;simp only[List.length_append,List.length_cons,List.length_nil];omega
  ·have HT:Qcs (q++[e]) k c=(q++[e])++[⟨1,k,0,[c]⟩]:=by simp only[Qcs,List.getLast?_append,List.getLast?_singleton,Option.some_or];rw[if_neg h0]
   rw[HT];exact hnew
def Q42 (w0:World) (D O C base G:Nat) (s u:ByteArray) (g:Nat→Nat) (e:Ending) (W':World):Prop:=
 e= .returned (.tuple #[])∧∃vo vc,WInv w0 W' D O C base G s u g (Qc4 s.data.toList u.data.toList 0 0 [] []).1 (Qc4 s.data.toList u.data.toList 0 0 [] []).2 vo vc∧Q43 (Qc4 s.data.toList u.data.toList 0 0 [] []).1 s.size∧Qs4 (Qc4 s.data.toList u.data.toList 0 0 [] []).2 u.size
theorem Q7n {x y:UInt8} {xs ys:Tx} {st k:Int} {out come:List Edt} (h:x=y):Qc4 (x::xs) (y::ys) st k out come=Qc4 xs ys (st+1) (k+1) out come:=by
 rw[Qc4,if_pos h]
theorem Q0h {x y:UInt8} {xs ys:Tx} {st k:Int} {out come:List Edt} (h:¬x=y) (hl:lcs (x::xs) ys≤lcs xs (y::ys)):Qc4 (x::xs) (y::ys) st k out come=Qc4 xs (y::ys) st k (Qbc out st) come:=by
 rw[Qc4,if_neg h,if_pos hl]
theorem Q4n {x y:UInt8} {xs ys:Tx} {st k:Int} {out come:List Edt} (h:¬x=y) (hl:¬lcs (x::xs) ys≤lcs xs (y::ys)):Qc4 (x::xs) (y::ys) st k out come=Qc4 (x::xs) ys st (k+1) out (Qcs come k y):=by
 rw[Qc4,if_neg h,if_neg hl]
theorem Q7o {w0 w:World} {D O C base G:Nat} {s u:ByteArray} {g:Nat→Nat} {vo vc:Value} (h:WInv w0 w D O C base G s u g [] [] vo vc) (p:WPos w0 D O C base G s.size g) (hs:s.size≤300) (hu:u.size≤300) (su:Qbj u.data.toList=true):
  Calls Tryz.prog 235 #[.pointer (some ⟨D,0,none⟩),.func (.func 236) #[] #[.pointer (some ⟨O,0,none⟩)],.func (.func 237) #[] #[.pointer (some ⟨C,0,none⟩)]] w (Q42 w0 D O C base G s u g):=by
 have HI:=hH h;have HP:=hH p;have HSU:=hH su;clear h p su;go_enter Tryz.func235,Tryz.ntmps235;go_wp2_with fail
 go_loopw [6,7,8] (fun st i k wr=>∃(a b c:Nat) (out come:List Edt) (vo vc:Value),a≤s.size∧b≤u.size∧c≤a∧st= .int .i64 c∧i= .int .i64 a∧k= .int .i64 b∧
   Hid (WInv w0 wr D O C base G s u g out come vo vc∧Q43 out a∧Qs4 come b∧Qc4 s.data.toList u.data.toList 0 0 [] []=Qc4 (s.data.toList.drop a) (u.data.toList.drop b) c b out come)) (fun _ i k _=>(s.size-(intOf i).toNat)+(u.size-(intOf k).toNat))
 case atStart=>exact⟨0,0,0,[],[],vo,vc,oM,oM,oM,rfl,rfl,rfl,HI.o,⟨sI,sI⟩,⟨sI,sI⟩,rfl⟩
 case round=>
  obtain⟨a,b,c,out,come,vo,vc,ha,hb,hc,rfl,rfl,rfl,hh⟩:=hrel;have d0:=hh.out.1.d3.a;have d1:=hh.out.1.d3.b;have d2:=hh.out.1.d3.c;have hww1:IntKind.i64.wrap ((a:Int)+1)=(a:Int)+1:=IntWalk.i64_in _ oM;have hww2:IntKind.i64.wrap ((b:Int)+1)=(b:Int)+1:=IntWalk.i64_in _ oM;have HW:=hH (And.intro hww1 hww2);clear hww1 hww2;have HTK:=hH (fun(W:World) (hx:Ext wr W) (x:Int)=>Vcg (c:=x) (k:=c) (hh.out.1.same hx HP.o) HP.o oM (by have:=hh.out.2.1.1;omega) (fun e he=>by have:=hh.out.2.1.2 e he;omega));have HPT:=hH (fun(W:World) (hx:Ext wr W) (y:UInt8) (hy:Qdm y=true)=>Vdr (c:=y) (k:=b) (hh.out.1.same hx HP.o) HP.o oM (by have:=hh.out.2.2.1.1;omega) hh.out.2.2.1.2 hy);by_cases la:a<s.size
  ·have ta:decide ((a:Int)<(s.size:Int))=true:=decide_eq_true oM;have ta':decide (a<s.size)=true:=decide_eq_true oM;have ea:=hH (show s.data.toList.drop a=s[a]::s.data.toList.drop (a+1) from List.drop_eq_getElem_cons (by simpa using la));by_cases lb:b<u.size
   ·have tb:decide ((b:Int)<(u.size:Int))=true:=decide_eq_true oM;have tb':decide (b<u.size)=true:=decide_eq_true oM;have tbe:((b:Int)==(u.size:Int))=false:=by rw[beq_eq_false_iff_ne];omega
    have tbe':(b==u.size)=false:=by rw[beq_eq_false_iff_ne];omega
    have eb:=hH (show u.data.toList.drop b=u[b]::u.data.toList.drop (b+1) from List.drop_eq_getElem_cons (by simpa using lb));have hsb:Qdm u[b]=true:=List.all_eq_true.1 HSU.o u[b] (List.getElem_mem (by simpa using lb));have HSB:=hH hsb;clear hsb;have r0:=hh.out.1.tab.row a oM;have r1:=hh.out.1.tab.row (a+1) oM;have nA:=(hh.out.1.tab.num (a+1) b oM oM).1;have nB:=(hh.out.1.tab.num a (b+1) oM oM).1;by_cases g2:s[a]=u[b]
    ·have t2:((s[a].toNat:Int)==(u[b].toNat:Int))=true:=by rw[g2];simp
     have HE:=hH (Q7n (xs:=s.data.toList.drop (a+1)) (ys:=u.data.toList.drop (b+1)) (st:=c) (k:=b) (out:=out) (come:=come) g2);clear g2;go_wp2_with fail
     go_quiet (fail)
     go_wp2_with fail
     go_roundw
     case rel=>exact⟨a+1,b+1,c+1,out,come,vo,vc,oM,oM,oM,by go_num,by go_num,by go_num,hh.out.1.same (ext_drewN (ext_refl _) _) HP.o,⟨by have:=hh.out.2.1.1;omega,fun e he=>by have:=hh.out.2.1.2 e he;omega⟩,⟨by have:=hh.out.2.2.1.1;omega,hh.out.2.2.1.2⟩,by rw[hh.out.2.2.2,ea.out,eb.out,HE.o];rfl⟩
     case measure=>simp[intOf];omega
    ·have t2:((s[a].toNat:Int)==(u[b].toNat:Int))=false:=by
      rw[beq_eq_false_iff_ne];intro h;apply g2;apply UInt8.toNat_inj.1;omega
     have HLA:=hH (show Qgg s u (a+1) b=(lcs (s.data.toList.drop (a+1)) (u[b]::u.data.toList.drop (b+1)):Nat) by unfold Qgg;rw[eb.out]);have HLB:=hH (show Qgg s u a (b+1)=(lcs (s[a]::s.data.toList.drop (a+1)) (u.data.toList.drop (b+1)):Nat) by unfold Qgg;rw[ea.out]);generalize Qgg s u (a+1) b=vA at *;generalize Qgg s u a (b+1)=vB at *;by_cases g3:vB≤vA
     ·have t3:decide (vB≤vA)=true:=decide_eq_true g3;have HE:=hH (Q0h (xs:=s.data.toList.drop (a+1)) (ys:=u.data.toList.drop (b+1)) (st:=c) (k:=b) (out:=out) (come:=come) g2 (by have h1:=HLA.o;have h2:=HLB.o;omega));clear g2;go_wp2_with fail
      go_quiet (fail)
      go_wp2_with fail
      have hww:=HW.o;obtain⟨hww1,hww2⟩:=hww;go_quiet (fail)
      clear hww1 hww2;go_wp2_with (go_at_call 236;go_must ((with_reducible refine(HTK.o _ Qac _).mono ?_);rintro e w1 ⟨rfl,vo1,hw1⟩;have HW1:=hH hw1;clear hw1))
      go_roundw
      case rel=>exact⟨a+1,b,c,_,come,vo1,vc,oM,hb,oM,rfl,by go_num,rfl,HW1.o,Q4d hh.out.2.1,hh.out.2.2.1,by rw[hh.out.2.2.2,ea.out,eb.out,HE.o]⟩
      case measure=>simp[intOf];omega
     ·have t3:decide (vB≤vA)=false:=decide_eq_false g3;have HE:=hH (Q4n (xs:=s.data.toList.drop (a+1)) (ys:=u.data.toList.drop (b+1)) (st:=c) (k:=b) (out:=out) (come:=come) g2 (by have h1:=HLA.o;have h2:=HLB.o;omega));clear g2;go_wp2_with fail
      go_quiet (fail)
      go_wp2_with fail
      have hww:=HW.o;obtain⟨hww1,hww2⟩:=hww;go_quiet (fail)
      clear hww1 hww2;go_wp2_with (go_at_call 237;go_must ((with_reducible refine(HPT.o _ Qac _ HSB.o).mono ?_);rintro e w1 ⟨rfl,vc1,hw1⟩;have HW1:=hH hw1;clear hw1))
      go_roundw
      case rel=>exact⟨a,b+1,c,out,_,vo,vc1,ha,oM,hc,rfl,rfl,by go_num,HW1.o,hh.out.2.1,Q8g hh.out.2.2.1 oM,by rw[hh.out.2.2.2,ea.out,eb.out,HE.o];rfl⟩
      case measure=>simp[intOf];omega
   ·obtain rfl:b=u.size:=oM;have tb:decide ((u.size:Int)<(u.size:Int))=false:=decide_eq_false oM;have eb:=hH (show u.data.toList.drop u.size=[] from List.drop_eq_nil_of_le sI);go_wp2_with fail
    go_quiet (fail)
    go_wp2_with fail
    go_quiet (fail)
    go_wp2_with (go_at_call 236;go_must ((with_reducible refine(HTK.o _ Qac _).mono ?_);rintro e w1 ⟨rfl,vo1,hw1⟩;have HW1:=hH hw1;clear hw1))
    go_roundw
    case rel=>exact⟨a+1,u.size,c,_,come,vo1,vc,oM,hb,oM,rfl,by go_num,rfl,HW1.o,Q4d hh.out.2.1,hh.out.2.2.1,by rw[hh.out.2.2.2,ea.out,eb.out,Qc4]⟩
    case measure=>simp[intOf];omega
  ·obtain rfl:a=s.size:=oM;have ta:decide ((s.size:Int)<(s.size:Int))=false:=decide_eq_false oM;have ea:=hH (show s.data.toList.drop s.size=[] from List.drop_eq_nil_of_le sI);by_cases lb:b<u.size
   ·have tb:decide ((b:Int)<(u.size:Int))=true:=decide_eq_true oM;have tb':decide (b<u.size)=true:=decide_eq_true oM;have tbe:((b:Int)==(u.size:Int))=false:=by rw[beq_eq_false_iff_ne];omega
    have tbe':(b==u.size)=false:=by rw[beq_eq_false_iff_ne];omega
    have eb:=hH (show u.data.toList.drop b=u[b]::u.data.toList.drop (b+1) from List.drop_eq_getElem_cons (by simpa using lb));have hsb:Qdm u[b]=true:=List.all_eq_true.1 HSU.o u[b] (List.getElem_mem (by simpa using lb));have HSB:=hH hsb;clear hsb;go_wp2_with fail
    go_quiet (fail)
    go_wp2_with fail
    go_quiet (fail)
    go_wp2_with (go_at_call 237;go_must ((with_reducible refine(HPT.o _ Qac _ HSB.o).mono ?_);rintro e w1 ⟨rfl,vc1,hw1⟩;have HW1:=hH hw1;clear hw1))
    go_roundw
    case rel=>exact⟨s.size,b+1,c,out,_,vo,vc1,ha,oM,hc,rfl,rfl,by go_num,HW1.o,hh.out.2.1,Q8g hh.out.2.2.1 oM,by rw[hh.out.2.2.2,ea.out,eb.out,Qc4];rfl⟩
    case measure=>simp[intOf];omega
   ·obtain rfl:b=u.size:=oM;have eb:=hH (show u.data.toList.drop u.size=[] from List.drop_eq_nil_of_le sI);have hfin:Qc4 s.data.toList u.data.toList 0 0 [] []=(out,come):=by rw[hh.out.2.2.2,ea.out,eb.out,Qc4]
    have HF:=hH hfin;clear hfin;go_wp2_with fail
    go_end0
    refine⟨rfl,vo,vc,?_⟩;rw[HF.o];exact⟨hh.out.1,hh.out.2.1,hh.out.2.2.1⟩
theorem Qxx {e base:Nat} {F:Nat→Prop} {w:World} {v:Value} {l:List Edt} (h:OSl REd 4 e base F w v l):RSl REd 4 (fun k=>v.ownBlock=some k) w v l:=by
 obtain⟨a,n,c,rfl⟩:=Qab h;obtain⟨rfl,h1,h2⟩:=Qa2 h;refine⟨a,c,rfl,h1,h2,fun hne=> ?_⟩;obtain⟨g,x,cs,_,rfl,_,hg,_,_,_,_,_⟩:=Qlb h (i:=0) (List.length_pos_iff.2 hne);refine⟨g,0,rfl,own_some,hg,fun i x hi=> ?_⟩;obtain⟨g',y,cs,_,hg',_,_,hy,hcs,hr,hR,_⟩:=Qlb h (i:=i) (List.getElem?_eq_some_iff.1 hi).1;injection hg' with hg'
 injection hg' with hg' _ _
 subst hg';rw[hi] at hy;have:x=y:=by simpa using hy
 subst this;exact⟨cs,hcs,by rw[Nat.zero_add];exact hr,hR⟩
def Qwy (w0:World) (l:List Edt) (e:Ending) (w':World):Prop:=∃v,e= .returned v∧RSl REd 4 (fun k=>w0.heap.size≤k) w' v l∧Ext w0 w'∧l.length≤600∧∀e∈l,e.text.length≤60
theorem Q17 {w0 w:World} {D G:Nat} {s u:ByteArray} {g:Nat→Nat} (hw0:Ext w0 w) (hD3:D3 w D s u G s.size) (hT:Tab w G s.size u.size g (Qgg s u)) (hDG:D<G) (hs:s.size≤300) (hu:u.size≤300) (su:Qbj u.data.toList=true)
  (hout:∀e∈(Qc4 s.data.toList u.data.toList 0 0 [] []).1,e.text=[]):
  Calls Tryz.prog 215 #[.pointer (some ⟨D,0,none⟩)] w (Qwy w0 (Vaa s.data.toList u.data.toList)):=by
 obtain⟨i0,hi0,hz0,hz1,hz2⟩:=info_parts Qos;have HI:=hH hi0;have HZ0:=hH hz0;have HZ1:=hH hz1;have HZ2:=hH hz2;clear hi0 hz0 hz1 hz2;have hGl:=hT.lt;have hsz0:=hw0.size;have HP:=hH (show WPos w0 D w.heap.size (w.heap.size+1) (w.heap.size+2) G s.size g from
  ⟨hsz0,oM,oM,oM,oM,by have:=hD3.lt;omega,oM,fun i hi=>by have:=(hT.off i hi).2;omega,by have:=hD3.lt;omega,by have:=hD3.lt;omega,oM,oM,fun i hi=>by have:=(hT.off i hi).2;omega,fun i hi=>by have:=(hT.off i hi).2;omega⟩)
 have HX2:=hH (show Ext w ((w.alloc (.cells #[.slice none 0 0] 145)).alloc (.cells #[.slice none 0 0] 145)) from ext_alloc (ext_alloc (ext_refl _) _) _);have HWI:=hH (show WInv w0 ((w.alloc (.cells #[.slice none 0 0] 145)).alloc (.cells #[.slice none 0 0] 145)) D w.heap.size (w.heap.size+1) (w.heap.size+2) G s u g [] [] (.slice none 0 0) (.slice none 0 0) from
  ⟨ext_trans hw0 HX2.o,Qxa hD3 HX2.o,hT.ext HX2.o,gS,gS,Qbn,gS,gS,Qbn,fun b h=>by simp[Value.ownBlock] at h,sI⟩)
 have HWK:=hH (Q7o HWI.o HP.o hs hu su);have HRW:=hH (show Vaa s.data.toList u.data.toList=(Qc4 s.data.toList u.data.toList 0 0 [] []).1++(Qc4 s.data.toList u.data.toList 0 0 [] []).2 from rfl);have HOUT:=hH hout;clear hw0 hD3 hT su hout;go_enter Tryz.func215,Tryz.ntmps215;go_wp2_with (first
  |(go_at_call 235;go_must ((with_reducible refine(HWK.o).mono ?_);rintro e w1 ⟨rfl,vo,vc,hwi,hok1,hok2⟩;have co:=hwi.co;have cc:=hwi.cc;obtain⟨ao,no,po,rfl⟩:=Qab hwi.oo;obtain⟨ac,nc,pc,rfl⟩:=Qab hwi.oc;have HWV:=hH hwi;have HK1:=hH hok1;have HK2:=hH hok2;clear hwi hok1 hok2))
  |(at_builtin;go_must (refine Qaj gEd rfl (.tmp 9) (.tmp 10) 145 rfl (w.heap.size+2) 152 i0 _ 4 40 Tryz.underlying145 HI.o HZ0.o HZ1.o HZ2.o rfl oM (F:=fun _=>True) (G:=fun k=>(Value.slice ac nc pc).ownBlock=some k) (.slice ao no po) _ rfl HWV.o.oo (.slice ac nc pc) _ rfl (Qxx HWV.o.oc) Qua (fun k hk _=>⟨trivial,fun e=>HWV.o.sep k e.symm hk⟩) (by have h1:=HK1.o.1;have h2:=HK2.o.1;unfold maxLen;omega) (by have h1:=HK1.o.1;have h2:=HK2.o.1;omega) HWV.o.bs ?_;intro v9 w9 hown9 hg9 hat9;obtain⟨a9,n9,c9,rfl⟩:=Qab hown9;have HV9:=hH hown9;have HG9:=hH hg9;clear hown9 hg9 hat9)))
 go_ret;refine⟨_,rfl,?_,Qd5 HWV.o.ext HG9.o (fun k hk=>by have:=(Qak HWV.o.oo k hk).1;omega),?_,?_⟩
 ·rw[HRW.o];exact RSl.more gEd (fun k hk _=>by have:=(Qak HV9.o k hk).1;omega) (Qxx HV9.o)
 ·rw[HRW.o,List.length_append];have h1:=HK1.o.1;have h2:=HK2.o.1;omega
 ·rw[HRW.o];intro e he;rcases List.mem_append.1 he with he|he
  ·rw[HOUT.o e he];simp
  ·exact(HK2.o.2 e he).2.2
theorem Q0e:∀(a b:Tx) (st k:Int) (out come:List Edt),(∀e∈out,e.text=[])→∀e∈(Qc4 a b st k out come).1,e.text=[]:=by
 have hts:∀(out:List Edt) (k:Int),(∀e∈out,e.text=[])→∀e∈Qbc out k,e.text=[]:=by
  intro out k h e he;rcases List.eq_nil_or_concat out with rfl|⟨q,x,rfl⟩
  ·simp[Qbc] at he;subst he;rfl
  ·rw[List.concat_eq_append] at *;by_cases h0:x.at_=k
   ·have HT:Qbc (q++[x]) k=q++[{x with many:=x.many+1}]:=by simp[Qbc,h0]
    rw[HT] at he;rcases List.mem_append.1 he with he|he
    ·exact h e (by simp[he])
    ·have:e={x with many:=x.many+1}:=by simpa using he
     subst this;exact h x sI
   ·have HT:Qbc (q++[x]) k=(q++[x])++[⟨2,k,1,[]⟩]:=by simp[Qbc,h0]
    rw[HT] at he;rcases List.mem_append.1 he with he|he
    ·exact h e he
    ·have:e=⟨2,k,1,[]⟩:=by simpa using he
     subst this;rfl
 intro a b;induction h:a.length+b.length using Nat.strongRecOn generalizing a b with
 |_ n ih=>
  intro st k out come ho;cases a with
  |nil=>
   cases b with
   |nil=>rw[Qc4];exact ho
   |cons y ys=>rw[Qc4];exact ih _ (by simp at h ⊢;omega) [] ys rfl _ _ _ _ ho
  |cons x xs=>
   cases b with
   |nil=>rw[Qc4];exact ih _ (by simp at h ⊢;omega) xs [] rfl _ _ _ _ (hts _ _ ho)
   |cons y ys=>
    rw[Qc4];split
    ·exact ih _ (by simp at h ⊢;omega) xs ys rfl _ _ _ _ ho
    ·split
     ·exact ih _ (by simp at h ⊢;omega) xs (y::ys) rfl _ _ _ _ (hts _ _ ho)
     ·exact ih _ (by simp at h ⊢;omega) (x::xs) ys rfl _ _ _ _ ho
theorem Qwo (s u:ByteArray) (w:World) (hs:s.size≤300) (hu:u.size≤300) (su:Qbj u.data.toList=true):
  Calls Tryz.prog 169 #[.string s,.string u] w (Qwy w (Vaa s.data.toList u.data.toList)):=by
 have HSU:=hH su;clear su;go_enter Tryz.func169,Tryz.ntmps169;go_wp2_with (first
  |(go_at_call 214;go_must ((with_reducible refine(Q33 (w0:=w) (D:=w.heap.size) (s:=s) (u:=u) (v0:= .slice none 0 0) Qac (Nat.le_refl _) sI gS gS gS gS hs hu).mono ?_);rintro e w1 ⟨rfl,hx1,g,hd3,htab⟩;have HX1:=hH hx1;have HD:=hH hd3;have HT:=hH htab;clear hx1 hd3 htab))
  |(go_at_call 215;go_must ((with_reducible refine(Q17 HX1.o HD.o HT.o sI hs hu HSU.o (Q0e _ _ _ _ _ _ sI)).mono ?_);rintro e w2 ⟨v2,rfl,hv2,hx2,hl2,ht2⟩;obtain⟨a2,n2,c2,rfl⟩:=hv2.slice;have HV2:=hH hv2;have HX2:=hH hx2;have HL2:=hH hl2;have HT2:=hH ht2;clear hv2 hx2 hl2 ht2)))
 go_ret;exact⟨_,rfl,HV2.o,HX2.o,HL2.o,HT2.o⟩
def Q7w (l:List Edt) (er:Int) (w:World) (e:Ending) (w':World):Prop:=∃v,e= .returned (.tuple #[v,.int .i64 er])∧RSl REd 4 (fun k=>w.heap.size≤k) w' v l∧Ext w w'∧l.length≤600∧∀e∈l,e.text.length≤60
theorem Qvw {er:Int} {w w':World} (hx:Ext w w'):Q7w [] er w (.returned (.tuple #[.slice none 0 0,.int .i64 er])) w':=⟨_,rfl,RSl.nil_ (Nat.zero_le _),hx,sI,sI⟩
theorem Qt2 {p:Prop} (h:p:=by
 go_enter Tryz.func95,Tryz.ntmps95;go_wp2_with fail
 refine wp_loop_rounds 3 ?_;rw[rounds_succ];go_wp2_with (first|(go_at_call 168;((with_reducible refine(Qfa _ _ (by first|exact HS.o|exact HU.o)).mono ?_);rintro e w' ⟨rfl,rfl⟩)))
 rw[rounds_succ];go_wp2_with (first|(go_at_call 168;((with_reducible refine(Qfa _ _ (by first|exact HS.o|exact HU.o)).mono ?_);rintro e w' ⟨rfl,rfl⟩)))
 rw[rounds_succ];go_wp2_with (first|(go_at_call 168;((with_reducible refine(Qfa _ _ (by first|exact HS.o|exact HU.o)).mono ?_);rintro e w' ⟨rfl,rfl⟩)))
 go_ret2
 exact Qvw Qac):p:=h
theorem Q5p (s u:ByteArray) (w:World) (hs:s.size≤maxLen) (hu:u.size≤maxLen):
  Calls Tryz.prog 95 #[.string s,.string u] w (Q7w (Qh2 s.data.toList u.data.toList).1 (Qh2 s.data.toList u.data.toList).2 w):=by
 have HS:=hH hs;have HU:=hH hu;have HSL:=hH (show s.data.toList.length=s.size by simp);have HUL:=hH (show u.data.toList.length=u.size by simp);unfold maxLen at hs hu;by_cases h1:300<s.size
 ·have e1:Qea s.data.toList u.data.toList=2:=by unfold Qea;rw[if_pos (.inl (by rw[HSL.o];exact h1))]
  have e2:Qh2 s.data.toList u.data.toList=([],2):=by unfold Qh2;rw[e1];rfl
  rw[e2];clear e1 e2;go_enter Tryz.func95,Tryz.ntmps95;go_wp2_with fail
  refine wp_loop_rounds 3 ?_;rw[rounds_succ];go_wp2_with fail
  go_ret2
  exact Qvw Qac
 by_cases h2:300<u.size
 ·have e1:Qea s.data.toList u.data.toList=2:=by unfold Qea;rw[if_pos (.inr (by rw[HUL.o];exact h2))]
  have e2:Qh2 s.data.toList u.data.toList=([],2):=by unfold Qh2;rw[e1];rfl
  rw[e2];clear e1 e2;go_enter Tryz.func95,Tryz.ntmps95;go_wp2_with fail
  refine wp_loop_rounds 3 ?_;rw[rounds_succ];go_wp2_with fail
  rw[rounds_succ];go_wp2_with fail
  go_ret2
  exact Qvw Qac
 have hn:¬(300<s.data.toList.length∨300<u.data.toList.length):=by rw[HSL.o,HUL.o];omega
 have HN:=hH hn;clear hn;cases g1:Qbj s.data.toList with
 |false=>
  have e1:Qea s.data.toList u.data.toList=3:=by unfold Qea;rw[if_neg HN.o,if_pos (.inl g1)]
  have e2:Qh2 s.data.toList u.data.toList=([],3):=by unfold Qh2;rw[e1];rfl
  rw[e2];clear e1 e2;exact Qt2
 |true=>
  cases g2:Qbj u.data.toList with
  |false=>
   have e1:Qea s.data.toList u.data.toList=3:=by unfold Qea;rw[if_neg HN.o,if_pos (.inr g2)]
   have e2:Qh2 s.data.toList u.data.toList=([],3):=by unfold Qh2;rw[e1];rfl
   rw[e2];clear e1 e2;exact Qt2
  |true=>
   have e1:Qea s.data.toList u.data.toList=0:=by unfold Qea;rw[if_neg HN.o,if_neg (by rw[g1,g2];simp)]
   have e2:Qh2 s.data.toList u.data.toList=(Vaa s.data.toList u.data.toList,0):=by unfold Qh2;rw[e1];rfl
   have HG2:=hH g2;rw[e2];clear e1 e2;go_enter Tryz.func95,Tryz.ntmps95;go_wp2_with fail
   refine wp_loop_rounds 3 ?_;rw[rounds_succ];go_wp2_with (first|(go_at_call 168;((with_reducible refine(Qfa _ _ (by first|exact HS.o|exact HU.o)).mono ?_);rintro e w' ⟨rfl,rfl⟩))|(go_at_call 169;((with_reducible refine(Qwo s u _ oM oM HG2.o).mono ?_);rintro e w1 ⟨v1,rfl,hv1,hx1,hl1,ht1⟩;obtain⟨a1,n1,c1,rfl⟩:=hv1.slice;have HV1:=hH hv1;have HL1:=hH hl1;have HT1:=hH ht1;have HX1:=hH hx1;have hz1:=hx1.size;(try simp at hz1);clear hv1 hl1 ht1 hx1)))
   rw[rounds_succ];go_wp2_with (first|(go_at_call 168;((with_reducible refine(Qfa _ _ (by first|exact HS.o|exact HU.o)).mono ?_);rintro e w' ⟨rfl,rfl⟩))|(go_at_call 169;((with_reducible refine(Qwo s u _ oM oM HG2.o).mono ?_);rintro e w1 ⟨v1,rfl,hv1,hx1,hl1,ht1⟩;obtain⟨a1,n1,c1,rfl⟩:=hv1.slice;have HV1:=hH hv1;have HL1:=hH hl1;have HT1:=hH ht1;have HX1:=hH hx1;have hz1:=hx1.size;(try simp at hz1);clear hv1 hl1 ht1 hx1)))
   rw[rounds_succ];go_wp2_with (first|(go_at_call 168;((with_reducible refine(Qfa _ _ (by first|exact HS.o|exact HU.o)).mono ?_);rintro e w' ⟨rfl,rfl⟩))|(go_at_call 169;((with_reducible refine(Qwo s u _ oM oM HG2.o).mono ?_);rintro e w1 ⟨v1,rfl,hv1,hx1,hl1,ht1⟩;obtain⟨a1,n1,c1,rfl⟩:=hv1.slice;have HV1:=hH hv1;have HL1:=hH hl1;have HT1:=hH ht1;have HX1:=hH hx1;have hz1:=hx1.size;(try simp at hz1);clear hv1 hl1 ht1 hx1)))
   go_ret2
   exact⟨_,rfl,HV1.o.more gEd (fun k hk _=>by simp at hk;omega),ext_trans Qac HX1.o,HL1.o,HT1.o⟩
end Go.Proofs.YtgnccjojfebkeaaGreat
