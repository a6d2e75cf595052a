/- Are so many signs from a place on ones of so many, by the document? -/
import Derived.Test.YtgnccjojfebkeaaGreatQ453a98ae2d
set_option linter.unusedVariables false
set_option linter.unusedSimpArgs false
set_option maxRecDepth 100000
namespace Go.Proofs.YtgnccjojfebkeaaGreat
open Go Go.RowKit Cp
theorem Vd7 {p:Prop} (h:p:=by
 go_enter Tryz.func123,Tryz.ntmps123;go_wp2_with (go_at_call 66;refine(Qas _ _ _ _).mono ?_;rintro e w' ⟨rfl,rfl⟩)
 go_ret;exact⟨rfl,rfl⟩):p:=h
theorem Vea (a m n:Int) (w:World) (ha:I64 a) (hm:I64 m) (hn:0≤n∧n≤1000):
  Calls Tryz.prog 123 #[.int .i64 a,.int .i64 m,.int .i64 n] w fun e w'=>e= .returned (.bool (Qb8 a m n))∧w=w':=by
 obtain⟨a1,a2⟩:=ha;obtain⟨m1,m2⟩:=hm;obtain⟨n1,n2⟩:=hn;cases h1:inB a 0 n with
 |true=>
  cases h2:inB m 0 n with
  |true=>
   have b1:0≤a∧a≤n:=by unfold inB at h1;simpa using h1
   have b2:0≤m∧m≤n:=by unfold inB at h2;simpa using h2
   obtain⟨b3,b4⟩:=b1;obtain⟨b5,b6⟩:=b2;have e1:Qb8 a m n=decide (a+m≤n):=by unfold Qb8;rw[decide_eq_true b3,decide_eq_true b4,decide_eq_true b5,Bool.eq_iff_iff];simp;omega
   rw[e1];clear e1;exact Vd7
  |false=>
   have e1:Qb8 a m n=false:=by unfold inB at h1 h2;unfold Qb8;simp at *;omega
   rw[e1];clear e1;exact Vd7
 |false=>
  have e1:Qb8 a m n=false:=by unfold inB at h1;unfold Qb8;simp at *;omega
  rw[e1];clear e1;exact Vd7
end Go.Proofs.YtgnccjojfebkeaaGreat
