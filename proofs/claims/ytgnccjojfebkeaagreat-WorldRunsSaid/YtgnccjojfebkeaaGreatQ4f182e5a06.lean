/- A strings.Builder of one's own: a byte more; its string. -/
import Derived.Test.YtgnccjojfebkeaaGreatQb497ca1fba
import Derived.Shelf.Strings.BuilderK
set_option linter.unusedVariables false
set_option linter.unusedSimpArgs false
set_option maxRecDepth 100000
set_option maxHeartbeats 4000000
namespace Go.Proofs.YtgnccjojfebkeaaGreat
open Go Go.RowKit Go.BigFrame Go.Shelf Cp
theorem Q1f:(Tryz.prog.info? 265).map (·.size)=some 2:=kR
theorem Q85:liesAt Tryz.prog Tryz.prog.depth 265 (2 / Tryz.prog.cellsOf 265) 0 265 1=true:=kR
theorem Q84:(Tryz.prog.info? 5).map (fun i=>(i.zero,i.size,i.bytes))=some (some (.int .u8 0),1,1):=kR
def Vbb:Go.Shelf.Ren:=⟨fun|169=>217|n=>n,fun|70=>263|9=>9|0=>0|72=>265|37=>157|127=>285|3=>3|5=>5|n=>n,fun|n=>n⟩
theorem Vba:Go.Proofs.Lays.n169 Tryz.prog Vbb:={
 mixed:=kR
 f169:=Tryz.func217.trans (congrArg some kR)
 t0:=Tryz.underlying0
 a0:=Tryz.isAgg0
 z0:=Tryz.sizeOf0
 v0:=Tryz.zeroValue0
 t3:=Tryz.underlying3
 a3:=Tryz.isAgg3
 z3:=Tryz.sizeOf3
 v3:=Tryz.zeroValue3
 t9:=Tryz.underlying9
 a9:=Tryz.isAgg9
 z9:=Tryz.sizeOf9
 v9:=Tryz.zeroValue9
 t37:=Tryz.underlying157
 a37:=Tryz.isAgg157
 z37:=Tryz.sizeOf157
 v37:=Tryz.zeroValue157
 t70:=Tryz.underlying263
 a70:=Tryz.isAgg263
 z70:=Tryz.sizeOf263
 v70:=Tryz.zeroValue263
 t72:=Tryz.underlying265
 a72:=Tryz.isAgg265
 z72:=Tryz.sizeOf265
 v72:=Tryz.zeroValue265
 t127:=Tryz.underlying285
 a127:=Tryz.isAgg285
 z127:=Tryz.sizeOf285
 v127:=Tryz.zeroValue285}
theorem Q83:Builder.Extra Tryz.prog Vbb:={
 sizeBuilder:=kR
 liesBuilder:=kR
 t5:=Tryz.underlying5
 a5:=Tryz.isAgg5
 z5:=Tryz.sizeOf5
 v5:=Tryz.zeroValue5
 infoByte:=kR
 cellsByte:=kR
 sizeByte:=kR
 neB5:=by decide}
def Bld (B b:Nat) (l:List UInt8) (w:World):Prop:=Go.Lib.IsBuilderF 265 5 B b (Go.Lib.byteCells l) w
theorem Qym (B b:Nat) (l:List UInt8) (w:World) (h:Bld B b l w) (hB:B≤w.heap.size):
  Calls Tryz.prog 217 #[.pointer (some ⟨b,0,none⟩)] w fun e w'=>e= .returned (.string ⟨l.toArray⟩)∧Below B w w':=
 (Any.Builder_String_any_k Vba Q83 B b l w h hB).mono fun _ _ ⟨h1,_,h2,_⟩=>⟨h1,h2⟩
theorem Q1s (b:Nat) (w:World) (h0:w.cell? ⟨b,0,none⟩=some (.pointer (some ⟨b,0,none⟩))):
  Calls Tryz.prog 238 #[.pointer (some ⟨b,0,none⟩)] w fun e w'=>e= .returned (.tuple #[])∧w'=w:=by
 obtain⟨j,hj,_⟩:=Option.map_eq_some_iff.1 Q1f;go_enter Tryz.func238,Tryz.ntmps238;go_wp2
 rw[Go.Lib.run_neq_ptr_same w _ Tryz.underlying263 hj];go_wp2
 go_end0
 exact⟨rfl,rfl⟩
theorem Q5m (b:Nat) (w:World) (h0:w.cell? ⟨b,0,none⟩=some (.pointer none)) (hsh:w.shape? b=some (265,2)) (hfz:w.frozen? ⟨b,0,none⟩=false):
  Calls Tryz.prog 238 #[.pointer (some ⟨b,0,none⟩)] w fun e w'=>e= .returned (.tuple #[])∧w'=w.setCell ⟨b,0,none⟩ (.pointer (some ⟨b,0,none⟩)):=by
 obtain⟨j,hj,hjs⟩:=Option.map_eq_some_iff.1 Q1f;go_enter Tryz.func238,Tryz.ntmps238;go_wp2
 rw[Go.Lib.run_to_unsafe w ⟨b,0,none⟩ Tryz.underlying263 Tryz.underlying301 hj (by rw[hjs];decide) hsh (Nat.zero_lt_succ 1)];simp only[Result.andThen];rw[Oper.upon_value];go_wp2
 rw[run_callFunc_extern Tryz.func254 kR kR kR (e:=Extern.AbiNoEscape.same) kR];rw[Go.Lib.run_noEscape];simp only[Result.andThen];rw[Oper.upon_value];go_wp2
 rw[Go.Lib.run_from_unsafe w ⟨b,0,none⟩ Tryz.underlying301 Tryz.underlying263 hj hsh Q85];simp only[Result.andThen];rw[Oper.upon_value];go_wp2
 go_end0
 exact⟨rfl,rfl⟩
theorem Q5c (B b:Nat) (l:List UInt8) (w:World) (h:Bld B b l w):
  Calls Tryz.prog 238 #[.pointer (some ⟨b,0,none⟩)] w fun e w'=>e= .returned (.tuple #[])∧Go.Lib.BuilderAtF 265 5 B b (.pointer (some ⟨b,0,none⟩)) (Go.Lib.byteCells l) w'∧Below B w w':=by
 rcases h with h|h
 ·refine(Q5m b w h.cell0 h.shape h.frozen0).mono ?_;rintro e w' ⟨rfl,rfl⟩;exact⟨rfl,h.used _,(Below.refl B w).setCell (p:=⟨b,0,none⟩) h.1 _⟩
 ·refine(Q1s b w h.cell0).mono ?_;rintro e w' ⟨rfl,rfl⟩;exact⟨rfl,h,Below.refl B _⟩
theorem Q5b (B b:Nat) (l:List UInt8) (s:UInt8) (w:World) (h:Bld B b l w) (hl:l.length≤1000) (hBw:B≤w.heap.size):
  Calls Tryz.prog 216 #[.pointer (some ⟨b,0,none⟩),.int .u8 s.toNat] w fun e w'=>e= .returned .nilIface∧Bld B b (l++[s]) w'∧Below B w w':=by
 obtain⟨i0,hi,hz0,hz1,hz2⟩:=info_parts Q84;have HJ:=hH hi;have HZ0:=hH hz0;have HZ1:=hH hz1;have HZ2:=hH hz2;have HC:=hH (Q5c B b l w h);clear h hi hz0 hz1 hz2;go_enter Tryz.func216,Tryz.ntmps216;go_wp2_with (go_at_call 238;refine HC.o.mono ?_)
 rintro e w1 ⟨rfl,h1,hb1⟩;obtain⟨hB,v,hbk,hown,hne⟩:=h1;have c0:w1.cell? ⟨b,0,none⟩=some (.pointer (some ⟨b,0,none⟩)):=by rw[Go.Lib.cell_of_heap hbk];rfl
 have c1:w1.cell? ⟨b,1,none⟩=some v:=by rw[Go.Lib.cell_of_heap hbk];rfl
 have hz1s:=hb1.size;have HOW:=hH hown;have HBK:=hH hbk;have HNE:=hH hne;have HLL:=hH hl;clear hown hbk hne hl;go_wp2_with (at_builtin;refine wpList_append_ownF _ rfl _ _ 157 rfl B 5 i0 (.int .u8 0) 1 1 Tryz.underlying157 HJ.o HZ0.o HZ1.o HZ2.o rfl dC _ _ _ rfl (HOW.o.alloc _) ⟨w1.heap.size,0,none⟩ 1 1 [.int .u8 s.toNat] rfl rfl ?c1 ?c2 ?c3 ?c4 ?c5 ?_)
 case c1=>
  intro j u hj
  match j,hj with
  |0,hj=>simp at hj;subst hj;simp[Addr.add]
 case c2=>intro u hu;simp at hu;subst hu;rfl
 case c3=>have:=HLL.o;unfold maxLen;rw[Go.Lib.byteCells_length];omega
 case c4=>have:=HLL.o;rw[Go.Lib.byteCells_length];omega
 case c5=>simp;omega
 intro v' w2 hown' hgrow _;have hlt:b<w1.heap.size:=by
  rcases Nat.lt_or_ge b w1.heap.size with h'|h'
  ·exact h'
  ·have:=HBK.o;simp[Array.getElem?_eq_none h'] at this
 have hb2:w2.heap[b]?=some (.cells #[.pointer (some ⟨b,0,none⟩),v] 265 (0,0)):=by
  rw[hgrow.block b sP (fun e=>HNE.o e.symm),Go.Lib.alloc_old w1 _ b hlt];exact HBK.o
 have d0:w2.cell? ⟨b,0,none⟩=some (.pointer (some ⟨b,0,none⟩)):=by rw[Go.Lib.cell_of_heap hb2];rfl
 have d1:w2.cell? ⟨b,1,none⟩=some v:=by rw[Go.Lib.cell_of_heap hb2];rfl
 have f1:w2.frozen? ⟨b,1,none⟩=false:=Go.Lib.frozen_of_heap hb2 1;have hlen':(Go.Lib.byteCells l).length+1=(Go.Lib.byteCells (l++[s])).length:=by simp[Go.Lib.byteCells_length]
 rw[show Go.Lib.byteCells l++[Value.int .u8 s.toNat]=Go.Lib.byteCells (l++[s]) from(Go.Lib.byteCells_append l [s]).symm] at hown';obtain⟨g,n9,cap,rfl⟩:∃g n cap,v'= .slice g n cap:=by
  rcases hown'.2 with⟨h,h0⟩|⟨g,cap,cur,fz,hv,_⟩
  ·exact⟨_,_,_,h⟩
  ·exact⟨_,_,_,hv⟩
 go_wp2
 go_ret;refine⟨rfl,.inr ?_,?_⟩
 ·exact Go.Lib.BuilderAtF.put (T:=265) (e:=5) hB hb2 (bs':=Go.Lib.byteCells (l++[s])) (by rw[←hlen'];exact hown') dC
 ·exact((hb1.alloc (by have:=hb1.size;omega) _).grown hgrow (by have:=hb1.size;simp;omega) (fun k hk=>(HOW.o.lt k hk).1)).setCell (p:=⟨b,1,none⟩) hB _
end Go.Proofs.YtgnccjojfebkeaaGreat
