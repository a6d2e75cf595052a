/- edit.Take. -/
import Derived.Test.YtgnccjojfebkeaaGreatQ2b02e7f86f
import Derived.Test.YtgnccjojfebkeaaGreatQa50ddd2d9a
import Derived.Test.YtgnccjojfebkeaaGreatQ453a98ae2d
set_option linter.unusedVariables false
set_option linter.unusedSimpArgs false
set_option maxRecDepth 100000
set_option maxHeartbeats 4000000
namespace Go.Proofs.YtgnccjojfebkeaaGreat
open Go Go.RowKit Go.BigFrame Cp
theorem Qtn {F:Nat→Prop} {w:World} {cs:List Value} {s:St} {at_ many:Int} (h:RSt F w cs s) (ia:I64 at_) (im:I64 many):
  Calls Tryz.prog 167 #[.agg cs.toArray,.int .i64 at_,.int .i64 many] w (Q7v (Qnh s at_ many) (Qs2 s at_ many) w):=by
 have HCK:=hH (fun(W:World) (hx:Ext w W)=>Qeg (gSt.ext h hx));obtain⟨v,u,rfl,h1,h2⟩:=h;obtain⟨la,lg⟩:=s;simp only at h1 h2 HCK;have HA:=hH (fun(W:World) (hx:Ext w W)=>h1.ext gAt hx);obtain⟨a0,n0,c0,rfl⟩:=h1.slice;obtain⟨a1,n1,c1,rfl⟩:=h2.slice;obtain⟨rfl,hc0,_⟩:=h1.len;obtain⟨rfl,_,_⟩:=h2.len;clear h1 h2;by_cases h0:Qax (la,lg)=0
 ·have hn:la.length≤300:=(checkS_fit.1 h0).2.1;have HIN:=hH (fun(W:World)=>Qqq at_ many la.length W ia im oM);by_cases hi:Qb8 at_ many la.length=true
  ·have hcE:Qs2 (la,lg) at_ many=0:=by unfold Qs2;rw[if_neg (by simpa using h0),if_neg (by rw[hi];simp)]
   have hcV:Qnh (la,lg) at_ many=(Qct (Qry (la,lg) at_.toNat many.toNat)).map Qd1:=by unfold Qnh;rw[if_pos hcE]
   rw[hcE,hcV];obtain⟨i,j,rfl,rfl,hij⟩:=Qgx hi;rw[Int.toNat_natCast,Int.toNat_natCast];rw[hi] at HIN;have hck:=Ql5 h0 i j;have hcl:(Qry (la,lg) i j).length≤300:=by unfold Qry;rw[List.length_take,List.length_drop];simp only;omega
   have HRO:=hH (fun(W:World) (hx:Ext w W)=>Qup (show RSl RAt 3 F W _ (Qry (la,lg) i j) from by have:=Vac (HA.o W hx) (show i≤i+j by omega) hij;rwa [Nat.add_sub_cancel_left] at this) hck);have hrk:=(Qiv hck).2.1;have hrl:=Nat.le_trans (Qg7 _) hcl;generalize Qct (Qry (la,lg) i j)=rs at *;have HRK:=hH hrk;rw[h0] at HCK;obtain⟨i0,hi0,hz0,hz1',hz2⟩:=info_parts Qr6;have HJ:=hH hi0;have HZ0:=hH hz0;have HZ1:=hH hz1';have HZ2:=hH hz2;clear h0 hi hcE hcV hck hcl hrk hi0 hz0 hz1' hz2 ia im HA;go_enter Tryz.func167,Tryz.ntmps167;go_wp2_with (first|(go_at_call 182;go_must ((with_reducible refine(HCK.o _ Qac).mono ?_);rintro e w1 ⟨rfl,hx1⟩;have hs1:=hx1.size;(try simp at hs1);have l1_0:=zL hx1 w.heap.size;have p0:=cL hx1 (w.heap.size) 0 (.slice a0 la.length c0);have HX1:=xY w hx1))|(go_at_call 206;go_must ((with_reducible refine(HIN.o _).mono ?_);rintro e w2 ⟨rfl,rfl⟩;))|(go_at_call 212;go_must ((with_reducible refine(HRO.o _ (ext_trans HX1.o Qac)).mono ?_);rintro e w3 ⟨v3,rfl,hv3,hx3⟩;obtain⟨a3,n3,c3,rfl⟩:=hv3.slice;obtain rfl:n3=rs.length:=hv3.len.1;have HV3:=hH hv3;have HX3:=xX HX1 hx3;clear hv3)))
   all_goals
    refine Qad (fun wb ewb=> ?_);have HWB:=hH (show Ext w wb by rw[ewb];exact ext_trans HX3.o Qac);have HRS0:RSl RRn 3 (fun k=>w1.heap.size≤k) wb (.slice a3 rs.length c3) rs:=by rw[ewb];exact HV3.o.ext gRn Qac
    have HRS:=hH (show RSl RRn 3 (fun j=>w.heap.size≤j∧j<wb.heap.size) wb (.slice a3 rs.length c3) rs from RSl.more gRn (fun j hj hlt=>⟨by have:=HX1.o.size;first|omega|(simp at hj;omega),hlt⟩) HRS0);clear ewb HRS0 HV3 HX3 HX1 hx3 hx1 HRO HCK HIN p0;go_loopw [9,33] (fun ov iv wr=>∃k:Nat,k≤rs.length∧iv= .int .i64 k∧Hid (OSl RDe 7 136 wb.heap.size (fun j=>w.heap.size≤j) wr ov ((rs.take k).map Qd1))∧Hid (Ext wb wr)) (fun _ iv _=>rs.length-(intOf iv).toNat)
    case atStart=>exact⟨0,Nat.zero_le _,rfl,hH Qbn,hH (ext_refl _)⟩
    case round=>
     obtain⟨k,hk,rfl,HO,HX⟩:=hrel;have HOL:=hH (Qak HO.o);obtain⟨a6,n6,c6,rfl⟩:=Qab HO.o;obtain rfl:n6=((rs.take k).map Qd1).length:=(Qa2 HO.o).1;have hml:((rs.take k).map Qd1).length=k:=by rw[List.length_map,List.length_take];omega
     have hsr:=HX.o.size;have hwb:=HWB.o.size;by_cases hlt:k<rs.length
     ·obtain⟨b,o,p,c,t,ap,cp,rfl,hb,ek,ht,ick,hpp,y0,y1,y2⟩:=Qya (HRS.o.ext gRn HX.o) hlt;have ht60:=(Qb1 (HRK.o _ (List.mem_of_getElem? ek))).2.2.1;have hts:t.data.toList.length=t.size:=sI;simp only[hts] at ht60;have HDE:=hH (fun(W:World) (hx:Ext wr W)=>Q39 (hpp.ext Qap hx) ick (show t.data.toList.length≤60 by omega));have hsn:=Qxp (f:=Qd1) ek;rw[hts] at HDE;have hbr:b<wr.heap.size:=hb;clear ek hpp ht;rw[hml] at HO HOL ⊢;generalize (rs.take k).map Qd1=ms at *;go_wp2_with (first|(at_builtin;go_must (refine Qaj gDe rfl (.tmp 37) (.tmp 44) 46 rfl wb.heap.size 136 i0 _ 7 96 Tryz.underlying46 HJ.o HZ0.o HZ1.o HZ2.o rfl oM (F:=fun j=>w.heap.size≤j) (G:=fun j=>(w.heap.size≤j∧j<wb.heap.size)∨j=wr.heap.size+1) (.slice a6 k c6) ms rfl (Qai gDe HO.o Qac) _ [_] rfl (Q8a (HDE.o _ Qac) asG asG asG asG asG asG asG) Qwg (fun j hj _=>⟨by rcases hj with h|h<;>omega,fun e=>by have:=HOL.o j e.symm;rcases hj with h|h<;>omega⟩) (Q1v oM sI) (Q1u oM sI) ltA ?_;intro v9 w9 hown9 hg9 hat9;obtain⟨a9,n9,c9,rfl⟩:=Qab hown9;have HX9:=hH (show Ext wb w9 from Qao (ext_trans HX.o Qac) hg9 (fun j hj=>(HOL.o j hj).1));have HV9:=hH hown9)))
      go_roundw
      case rel=>exact⟨k+1,oM,by go_num,hH (by rw[hsn];exact HV9.o),HX9⟩
      case measure=>simp[intOf];omega
     ·obtain rfl:k=rs.length:=oM;rw[List.take_of_length_le (Nat.le_refl _)] at *;go_wp2_with fail
      refine bodyPost_ret (v:= .tuple #[.slice a6 (rs.map Qd1).length c6,.int .i64 0]) (by simp[results,Tryz.results167,go_sem]) rfl ⟨_,rfl,Qaz gDe (Qai gDe HO.o Qac) (fun j hj _=>hj) (fun j hj=>by omega),ext_trans HWB.o (ext_trans HX.o Qac)⟩
  ·have hcE:Qs2 (la,lg) at_ many=3:=by unfold Qs2;rw[if_neg (by simpa using h0),if_pos (by simpa using hi)]
   have hcV:Qnh (la,lg) at_ many=[]:=by unfold Qnh;rw[if_neg (by rw[hcE];simp)]
   rw[hcE,hcV];have hi':Qb8 at_ many la.length=false:=by simpa using hi
   rw[hi'] at HIN;rw[h0] at HCK;clear h0 hi hi' hcE hcV ia im HA;go_enter Tryz.func167,Tryz.ntmps167;go_wp2_with (first|(go_at_call 182;go_must ((with_reducible refine(HCK.o _ Qac).mono ?_);rintro e w1 ⟨rfl,hx1⟩;have hs1:=hx1.size;(try simp at hs1);have l1_0:=zL hx1 w.heap.size;have p0:=cL hx1 (w.heap.size) 0 (.slice a0 la.length c0);have HX1:=xY w hx1))|(go_at_call 206;go_must ((with_reducible refine(HIN.o _).mono ?_);rintro e w2 ⟨rfl,rfl⟩;)))
   refine bodyPost_ret (v:= .tuple #[.slice none 0 0,.int .i64 3]) (by simp[results,Tryz.results167,go_sem]) rfl ⟨_,rfl,RSl.nil_ (Nat.zero_le _),ext_trans HX1.o Qac⟩
 ·have hcE:Qs2 (la,lg) at_ many=Qax (la,lg):=by unfold Qs2;rw[if_pos h0]
  have hcV:Qnh (la,lg) at_ many=[]:=by unfold Qnh;rw[if_neg (by rw[hcE];exact h0)]
  rw[hcE,hcV];have g0:(Qax (la,lg) !=0)=true:=by simpa using h0
  generalize Qax (la,lg)=er at *;clear h0 hcE hcV ia im HA;go_enter Tryz.func167,Tryz.ntmps167;go_wp2_with (first|(go_at_call 182;go_must ((with_reducible refine(HCK.o _ Qac).mono ?_);rintro e w1 ⟨rfl,hx1⟩;have hs1:=hx1.size;(try simp at hs1);have l1_0:=zL hx1 w.heap.size;have p0:=cL hx1 (w.heap.size) 0 (.slice a0 la.length c0);have HX1:=xY w hx1)))
  refine bodyPost_ret (v:= .tuple #[.slice none 0 0,.int .i64 er]) (by simp[results,Tryz.results167,go_sem]) rfl ⟨_,rfl,RSl.nil_ (Nat.zero_le _),ext_trans HX1.o Qac⟩
end Go.Proofs.YtgnccjojfebkeaaGreat
