/- The text of atoms, by the program. -/
import Derived.Test.YtgnccjojfebkeaaGreatQ4f182e5a06
import Derived.Test.YtgnccjojfebkeaaGreatQ7826b3be5b
import Derived.Test.YtgnccjojfebkeaaGreatQb497ca1fba
set_option linter.unusedVariables false
set_option linter.unusedSimpArgs false
set_option maxRecDepth 100000
set_option maxHeartbeats 4000000
namespace Go.Proofs.YtgnccjojfebkeaaGreat
open Go Go.RowKit Go.BigFrame Cp
theorem Qto {a b c:World} {B:Nat} (h:Ext a b) (k:Below B b c) (hB:a.heap.size≤B):Ext a c:=Below.trans h (Below.mono k hB)
theorem Q1g {B b:Nat} {l:List UInt8} {w:World} (h:Bld B b l w) (o:Obj):Bld B b l (w.alloc o):=by
 rcases h with h|h
 ·exact .inl (h.alloc o)
 ·exact .inr (h.alloc o)
theorem Q86 (w:World):Bld w.heap.size w.heap.size [] (w.alloc (.cells #[.pointer none,.slice none 0 0] 265)):=Go.Lib.IsBuilderF.of (Go.Lib.fresh_isBuilder _ _ w)
theorem Q4i (l:List At) (k:Nat):(Qc3 (l.take k)).length≤k:=by unfold Qc3;rw[List.length_map,List.length_take];omega
theorem Qz8 {F:Nat→Prop} {w:World} {v:Value} {l:List At} (h:RSl RAt 3 F w v l) (hl3:l.length≤300):
  Calls Tryz.prog 170 #[v] w fun e w'=>e= .returned (.string ⟨(Qc3 l).toArray⟩)∧Ext w w':=by
 have HL:=hH (fun(W:World) (hx:Ext w W)=>h.ext gAt hx);obtain⟨a0,n0,c0,rfl⟩:=h.slice;obtain rfl:n0=l.length:=h.len.1;clear h;go_enter Tryz.func170,Tryz.ntmps170;go_wp2
 go_loopw [8] (fun iv wr=>∃k:Nat,k≤l.length∧iv= .int .i64 k∧Hid (Bld w.heap.size w.heap.size (Qc3 (l.take k)) wr)∧Hid (w.heap.size<wr.heap.size)∧Ext w wr) (fun iv _=>l.length-(intOf iv).toNat)
 case atStart=>exact⟨0,Nat.zero_le _,rfl,hH (Q86 w),hH sI,Qac⟩
 case round=>
  obtain⟨k,hk,rfl,HB,HS,hx⟩:=hrel;have HX:=hH hx;clear hx;have hsz:=HS.o;by_cases hlt:k<l.length
  ·obtain⟨b,o,p,d,s,ap,cp,rfl,hb,ek,ick,hpp,y0,y1,y2⟩:=Qcd (HL.o wr HX.o) hlt;have HEK:=hH (Qrh ek);have HTL:=hH (Q4i l k);have hnb:¬b=wr.heap.size:=oM;clear ek ick hpp;generalize Qc3 (l.take k)=t at *;go_wp2_with (go_at_call 216;go_must ((with_reducible refine(Q5b w.heap.size w.heap.size t s _ (Q1g HB.o _) (by have:=HTL.o;omega) ltA).mono ?_);rintro e w1 ⟨rfl,hv1,hb1⟩))
   go_roundw
   case rel=>exact⟨k+1,oM,by go_num,hH (by rw[HEK.o];exact hv1),hH (by have:=hb1.size;simp at this;omega),Qto (ext_trans HX.o Qac) hb1 (Nat.le_refl _)⟩
   case measure=>simp[intOf];omega
  ·have hkl:k=l.length:=oM;subst hkl;have HF:=hH (show Bld w.heap.size w.heap.size (Qc3 l) wr by have:=HB.o;rwa [List.take_of_length_le (Nat.le_refl _)] at this);clear HB;go_wp2_with (go_at_call 217;go_must ((with_reducible refine(Qym w.heap.size w.heap.size (Qc3 l) _ HF.o ltA).mono ?_);rintro e w1 ⟨rfl,hb1⟩))
   go_ret;exact⟨rfl,Qto (ext_trans HX.o Qac) hb1 (Nat.le_refl _)⟩
end Go.Proofs.YtgnccjojfebkeaaGreat
