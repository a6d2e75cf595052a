/- The same notes, of equal ones. -/
import Derived.Test.YtgnccjojfebkeaaGreatQb12723dfd3
import Derived.Test.YtgnccjojfebkeaaGreatQa50ddd2d9a
import Derived.Test.YtgnccjojfebkeaaGreatQ453a98ae2d
set_option linter.unusedVariables false
set_option linter.unusedSimpArgs false
set_option maxRecDepth 100000
set_option maxHeartbeats 4000000
namespace Go.Proofs.YtgnccjojfebkeaaGreat
open Go Go.RowKit Go.BigFrame Cp
theorem Qus {F G:Nat→Prop} {w:World} {cs ds:List Value} {n:No} (h:RNo F w cs n) (k:RNo G w ds n):
  Calls Tryz.prog 34 #[.agg cs.toArray,.agg ds.toArray] w fun e w'=>e= .returned (.bool true)∧Ext w w':=by
 obtain⟨v,u,rfl,i1,i2,h1,h2⟩:=h;obtain⟨v',u',rfl,_,_,k1,k2⟩:=k;obtain⟨st,nu,l,q⟩:=n;simp only at h1 h2 k1 k2 ⊢;have HSI:=hH (fun(W:World) (hx:Ext w W)=>Qm3 (h1.ext Qd6 hx) (k1.ext Qd6 hx));have HSD:=hH (fun(W:World) (hx:Ext w W)=>Qst (h2.ext gDe hx) (k2.ext gDe hx));obtain⟨a1,n1,c1,rfl⟩:=h1.slice;obtain⟨a2,n2,c2,rfl⟩:=h2.slice;obtain⟨a3,n3,c3,rfl⟩:=k1.slice;obtain⟨a4,n4,c4,rfl⟩:=k2.slice;clear h1 h2 k1 k2 i1 i2;go_enter Tryz.func34,Tryz.ntmps34;go_wp2_with (first|(go_at_call 57;go_must ((with_reducible refine(HSI.o _ Qac).mono ?_);rintro e w2 ⟨rfl,hx2⟩;have hz2:=hx2.size;(try simp at hz2);have x3:=cL hx2 (w.heap.size) 3 (.slice a2 n2 c2);have x7:=cL hx2 (w.heap.size+1) 3 (.slice a4 n4 c4);have HX2:=xY w hx2))|(go_at_call 88;go_must ((with_reducible refine(HSD.o _ (ext_trans HX2.o Qac)).mono ?_);rintro e w3 ⟨rfl,hx3⟩;have HX3:=xX HX2 hx3)))
 go_ret;exact⟨rfl,ext_trans HX3.o Qac⟩
theorem Qlk {F G:Nat→Prop} {w:World} {v u:Value} {l:List No} (h:RSl RNo 4 F w v l) (k:RSl RNo 4 G w u l):
  Calls Tryz.prog 60 #[v,u] w fun e w'=>e= .returned (.bool true)∧Ext w w':=by
 have HL:=hH (fun(W:World) (hx:Ext w W)=>h.ext gNo hx);have HM:=hH (fun(W:World) (hx:Ext w W)=>k.ext gNo hx);obtain⟨a,n,c,rfl⟩:=h.slice;obtain⟨a2,n2,c2,rfl⟩:=k.slice;obtain⟨rfl,hn1,hn2⟩:=h.len;obtain⟨rfl,_,_⟩:=k.len;unfold maxLen at hn2;have q1:l.length≤9223372036854775807:=oM;clear h k hn1 hn2;go_enter Tryz.func60,Tryz.ntmps60;go_wp2
 go_loopw [5] (fun i wr=>∃q:Nat,q≤l.length∧i= .int .i64 q∧Ext w wr) (fun i _=>l.length-(intOf i).toNat)
 case atStart=>exact⟨0,Nat.zero_le _,rfl,ext_refl _⟩
 case round=>
  obtain⟨q,hq,rfl,hx⟩:=hrel;have HX:=hH hx;clear hx;by_cases hlt:q<l.length
  ·obtain⟨b,o,d,b1,m1,e1,b2,m2,e2,rfl,hb,ek,hde,u0,u1,u2,u3⟩:=Qdj (HL.o wr HX.o) hlt;obtain⟨b',o',d',b1',m1',e1',b2',m2',e2',rfl,hb',ek',hde',v0,v1,v2,v3⟩:=Qdj (HM.o wr HX.o) hlt;obtain rfl:d=d':=by rw[ek] at ek';exact Option.some.inj ek'
   have HSM:=hH (fun(W:World) (hx:Ext wr W)=>Qus (gNo.ext hde hx) (gNo.ext hde' hx));generalize d.site=st at *;generalize d.number=nu at *;clear ek ek' hde hde';go_wp2_with fail
   refine Qad (fun W2 eW2=> ?_);have e10:=rL eW2 ⟨b,o+q * 4,none⟩ (.int .i64 st);have e11:=rL eW2 ⟨b,o+q * 4+1,none⟩ (.int .i64 nu);have e12:=rL eW2 ⟨b,o+q * 4+2,none⟩ (.slice b1 m1 e1);have e13:=rL eW2 ⟨b,o+q * 4+3,none⟩ (.slice b2 m2 e2);have e14:=rL eW2 ⟨b',o'+q * 4,none⟩ (.int .i64 st);have e15:=rL eW2 ⟨b',o'+q * 4+1,none⟩ (.int .i64 nu);have e16:=rL eW2 ⟨b',o'+q * 4+2,none⟩ ((.slice b1' m1' e1'));have e17:=rL eW2 ⟨b',o'+q * 4+3,none⟩ ((.slice b2' m2' e2'));have zW2_0:=zE eW2 b;have zW2_1:=zE eW2 b';have hw2:=xE wr eW2;clear eW2;refine Qaa fol kR (fun hlater=> ?_);repeat(go_big_quiet_step ((first
     |(go_at_call 34;(with_reducible exact Qah (HSM.o _ (ext_trans hw2 (Later.ext _))))))))
   refine wpQuiet_nil ?_;exact Zal
  ·go_wp2
   go_ret;exact⟨rfl,HX.o⟩
end Go.Proofs.YtgnccjojfebkeaaGreat
