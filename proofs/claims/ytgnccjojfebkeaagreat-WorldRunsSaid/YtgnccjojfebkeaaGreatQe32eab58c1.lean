/- The text of a desk; a new desk. -/
import Derived.Test.YtgnccjojfebkeaaGreatQ456e2e86ee
import Derived.Test.YtgnccjojfebkeaaGreatQ99a34a9f63
import Derived.Test.YtgnccjojfebkeaaGreatQfc0f38224b
set_option linter.unusedVariables false
set_option linter.unusedSimpArgs false
set_option maxRecDepth 100000
set_option maxHeartbeats 4000000
namespace Go.Proofs.YtgnccjojfebkeaaGreat
open Go Go.RowKit Go.BigFrame Cp
def Qm5 (d:Dk) (er:Int) (w:World) (e:Ending) (w':World):Prop:=
 ∃va vg vs vw vo,e= .returned (.tuple #[.agg #[.int .i64 d.site,va,vg,vs,vw,.int .i64 d.clock,vo],.int .i64 er])∧RDk (fun k=>w.heap.size≤k) w' [.int .i64 d.site,va,vg,vs,vw,.int .i64 d.clock,vo] d∧Ext w w'
theorem Qsf {F:Nat→Prop} {w:World}:RDk F w [.int .i64 0,.slice none 0 0,.slice none 0 0,.slice none 0 0,.slice none 0 0,.int .i64 0,.slice none 0 0] noK:=
 ⟨_,_,_,_,_,rfl,⟨dC,dC⟩,RSl.nil_ (Nat.zero_le _),RSl.nil_ (Nat.zero_le _),RSl.nil_ (Nat.zero_le _),RSl.nil_ (Nat.zero_le _),⟨dC,dC⟩,RSl.nil_ (Nat.zero_le _)⟩
def Vdw (site:Int):Int:=if inB site 0 4=true then 0 else 3
def Vdx (site:Int):Dk:=if inB site 0 4=true then Vam site else noK
theorem Q4j {F:Nat→Prop} {w:World} {cs:List Value} {d:Dk} (h:RDk F w cs d) (hl3:d.state.1.length≤300):
  Calls Tryz.prog 96 #[.agg cs.toArray] w fun e w'=>e= .returned (.string ⟨(Qc3 d.state.1).toArray⟩)∧Ext w w':=by
 obtain⟨va,vg,vs,vw,vo,rfl,_,ha,hg,hq,hw,ick,ho⟩:=h;obtain⟨st,ss,sn,wt,ck,ou⟩:=d;simp only at ha hg hq hw ho ick hl3 ⊢;obtain⟨a1,n1,c1,rfl⟩:=ha.slice;obtain⟨a2,n2,c2,rfl⟩:=hg.slice;obtain⟨a3,n3,c3,rfl⟩:=hq.slice;obtain⟨a4,n4,c4,rfl⟩:=hw.slice;obtain⟨a5,n5,c5,rfl⟩:=ho.slice;have HS:=hH (fun(W:World) (hx:Ext w W)=>Qz8 (ha.ext gAt hx) hl3);clear ha hg hq hw ho hl3;go_enter Tryz.func96,Tryz.ntmps96;go_wp2_with (go_at_call 170;((with_reducible refine(HS.o _ Qac).mono ?_);rintro e w3 ⟨rfl,hx3⟩))
 go_ret;exact⟨rfl,ext_trans Qac hx3⟩
theorem Vc9 {F:Nat→Prop} {w:World} {b:Nat} (h0:w.cell? ⟨b,0,none⟩=some (.int .i64 0)) (h1:w.cell? ⟨b,1,none⟩=some (.int .i64 0)) (h2:w.cell? ⟨b,2,none⟩=some (.int .i64 0)) (h3:w.cell? ⟨b,3,none⟩=some (.int .i64 0)) (h4:w.cell? ⟨b,4,none⟩=some (.int .i64 0)) (hF:F b):RSl Qe1 1 F w (.slice (some ⟨b,0,none⟩) 5 5) [0,0,0,0,0]:=by
 have i0:I64 0:=⟨dC,dC⟩;refine⟨_,5,rfl,Nat.le_refl _,by unfold maxLen;decide,fun _=>⟨b,0,rfl,hF,World.block_lt_of_cell? _ _ h0,fun i x hi=> ?_⟩⟩
 match i,hi with
 |0,hi=>injection hi with hi;subst hi;exact⟨_,rfl,Qez h0,rfl,i0⟩
 |1,hi=>injection hi with hi;subst hi;exact⟨_,rfl,Qez h1,rfl,i0⟩
 |2,hi=>injection hi with hi;subst hi;exact⟨_,rfl,Qez h2,rfl,i0⟩
 |3,hi=>injection hi with hi;subst hi;exact⟨_,rfl,Qez h3,rfl,i0⟩
 |4,hi=>injection hi with hi;subst hi;exact⟨_,rfl,Qez h4,rfl,i0⟩
 |i+5,hi=>simp at hi
theorem Q6m {site:Int} (hi:I64 site) (w:World):
  Calls Tryz.prog 54 #[.int .i64 site] w (Qm5 (Vdx site) (Vdw site) w):=by
 unfold Vdx Vdw;cases g:inB site 0 4 with
 |false=>
  rw[if_neg sI,if_neg sI];go_enter Tryz.func54,Tryz.ntmps54;go_wp2_with (go_at_call 128;((with_reducible refine(Qfj _ _).mono ?_);rintro e w' ⟨rfl,rfl⟩))
  refine bodyPost_ret (v:= .tuple #[.agg #[.int .i64 0,.slice none 0 0,.slice none 0 0,.slice none 0 0,.slice none 0 0,.int .i64 0,.slice none 0 0],.int .i64 3]) (by simp[results,Tryz.results54,go_sem]) rfl ⟨_,_,_,_,_,rfl,Qsf,Qac⟩
 |true=>
  rw[if_pos rfl,if_pos rfl];have HI:=hH hi;go_enter Tryz.func54,Tryz.ntmps54;go_wp2_with (go_at_call 128;((with_reducible refine(Qfj _ _).mono ?_);rintro e w' ⟨rfl,rfl⟩))
  rw[Qt6];go_wp2_with fail
  refine bodyPost_ret (v:= .tuple #[.agg #[.int .i64 site,.slice none 0 0,.slice none 0 0,.slice (some ⟨w.heap.size+1,0,none⟩) 5 5,.slice none 0 0,.int .i64 1,.slice none 0 0],.int .i64 0]) (by simp[results,Tryz.results54,go_sem]) rfl ⟨_,_,_,_,_,rfl,⟨_,_,_,_,_,rfl,HI.o,RSl.nil_ (Nat.zero_le _),RSl.nil_ (Nat.zero_le _),Vc9 gS gS gS gS gS (Nat.le_succ _),RSl.nil_ (Nat.zero_le _),(show I64 1 from⟨dC,dC⟩),RSl.nil_ (Nat.zero_le _)⟩,Qac⟩
end Go.Proofs.YtgnccjojfebkeaaGreat
