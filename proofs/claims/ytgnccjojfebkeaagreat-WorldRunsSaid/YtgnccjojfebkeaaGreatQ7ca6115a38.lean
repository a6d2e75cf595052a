/- How the program's data lie in memory: a word for each type, kept over whatever leaves its blocks alone. No function of the program in sight. -/
import Derived.WalkKit
import Derived.Deep.MidRow
import Derived.Test.YtgnccjojfebkeaaGreatQ3471126dda
set_option linter.unusedVariables false
set_option linter.unusedSimpArgs false
set_option maxRecDepth 100000
namespace Cp
open Go Go.RowKit
def I64 (n:Int):Prop:= -9223372036854775808≤n∧n≤9223372036854775807
structure Keeps (F:Nat→Prop) (w w':World):Prop where
 size:w.heap.size≤w'.heap.size
 block:∀k,F k→k<w.heap.size→w'.heap[k]?=w.heap[k]?
theorem Keeps.refl (F:Nat→Prop) (w:World):Keeps F w w:=⟨Nat.le_refl _,fun _ _ _=>rfl⟩
theorem Keeps.trans {F:Nat→Prop} {a b c:World} (h:Keeps F a b) (k:Keeps F b c):Keeps F a c:=
 ⟨Nat.le_trans h.size k.size,fun i hF hi=>(k.block i hF (Nat.lt_of_lt_of_le hi h.size)).trans (h.block i hF hi)⟩
theorem Keeps.weaken {F G:Nat→Prop} {w w':World} (h:Keeps F w w') (hg:∀k,k<w.heap.size→G k→F k):Keeps G w w':=
 ⟨h.size,fun k hk hl=>h.block k (hg k hl hk) hl⟩
theorem Keeps.of_below {F:Nat→Prop} {w w':World} (h:Below w.heap.size w w'):Keeps F w w':=⟨h.size,fun k _ hk=>h.block k hk⟩
abbrev Rd (α:Type):=(Nat→Prop)→World→List Value→α→Prop
structure Good {α:Type} (R:Rd α):Prop where
 keep:∀{F w w' cs x},Keeps F w w'→R F w cs x→R F w' cs x
 more:∀{F G w cs x},(∀k,F k→k<w.heap.size→G k)→R F w cs x→R G w cs x
theorem Good.below {α:Type} {R:Rd α} (g:Good R) {F w w' cs x} (h:R F w cs x) (hb:Below w.heap.size w w'):R F w' cs x:=g.keep (.of_below hb) h
theorem Good.lt {α:Type} {R:Rd α} (g:Good R) {F w cs x} (h:R F w cs x):R (fun k=>k<w.heap.size) w cs x:=g.more (fun _ _ hk=>hk) h
theorem Good.all {α:Type} {R:Rd α} (g:Good R) {F w cs x} (h:R F w cs x):R (fun _=>True) w cs x:=g.more (fun _ _ _=>trivial) h
def RSl {α:Type} (R:Rd α) (sz:Nat) (F:Nat→Prop) (w:World) (v:Value) (l:List α):Prop:=
 ∃a cap,v= .slice a l.length cap∧l.length≤cap∧cap≤maxLen∧
  (l≠[]→∃b o,a=some ⟨b,o,none⟩∧F b∧b<w.heap.size∧∀i x,l[i]?=some x→∃cs,cs.length=sz∧w.rangeAt b (o+i * sz) cs∧R F w cs x)
theorem Qlg {w w':World} {b o:Nat} {cs:List Value} (h:w.rangeAt b o cs) (hb:w'.heap[b]?=w.heap[b]?):w'.rangeAt b o cs:=
 fun j v hv=>(World.cell?_of_block (a:=⟨b,o+j,none⟩) (w:=w) hb).trans (h j v hv)
theorem RSl.keep {α:Type} {R:Rd α} (g:Good R) {sz F w w' v} {l:List α} (hk:Keeps F w w') (h:RSl R sz F w v l):RSl R sz F w' v l:=by
 obtain⟨a,cap,e,h1,h2,h3⟩:=h;refine⟨a,cap,e,h1,h2,fun hne=> ?_⟩;obtain⟨b,o,e2,hF,hl,hx⟩:=h3 hne;refine⟨b,o,e2,hF,Nat.lt_of_lt_of_le hl hk.size,fun i x hi=> ?_⟩;obtain⟨cs,c1,c2,c3⟩:=hx i x hi;exact⟨cs,c1,Qlg c2 (hk.block b hF hl),g.keep hk c3⟩
theorem RSl.more {α:Type} {R:Rd α} (g:Good R) {sz F G w v} {l:List α} (hg:∀k,F k→k<w.heap.size→G k) (h:RSl R sz F w v l):RSl R sz G w v l:=by
 obtain⟨a,cap,e,h1,h2,h3⟩:=h;refine⟨a,cap,e,h1,h2,fun hne=> ?_⟩;obtain⟨b,o,e2,hF,hl,hx⟩:=h3 hne;refine⟨b,o,e2,hg b hF hl,hl,fun i x hi=> ?_⟩;obtain⟨cs,c1,c2,c3⟩:=hx i x hi;exact⟨cs,c1,c2,g.more hg c3⟩
theorem RSl.below {α:Type} {R:Rd α} (g:Good R) {sz F w w' v} {l:List α} (h:RSl R sz F w v l) (hb:Below w.heap.size w w'):RSl R sz F w' v l:=h.keep g (.of_below hb)
def Qe1 (_:Nat→Prop) (_:World) (cs:List Value) (n:Int):Prop:=cs=[.int .i64 n]∧I64 n
def Qdt (_:Nat→Prop) (_:World) (cs:List Value) (s:Stp):Prop:=cs=[.int .i64 s.1,.int .i64 s.2]∧I64 s.1∧I64 s.2
def RMk (F:Nat→Prop) (w:World) (cs:List Value) (m:Mk):Prop:=∃v,cs=[v,.int .i64 m.2]∧RSl Qdt 2 F w v m.1∧I64 m.2
def RAt (F:Nat→Prop) (w:World) (cs:List Value) (a:At):Prop:=∃v,cs=[v,.int .i64 a.1.2,.int .u8 a.2.toNat]∧RSl Qdt 2 F w v a.1.1∧I64 a.1.2
def RTx (v:Value) (t:Tx):Prop:=v= .string ⟨t.toArray⟩∧t.length≤140737488351232
theorem RTx.len {v:Value} {t:Tx} (h:RTx v t):t.length≤maxLen:=Nat.le_trans h.2 (by unfold maxLen;omega)
def RRn (F:Nat→Prop) (w:World) (cs:List Value) (r:Rn):Prop:=∃v s,cs=[v,.int .i64 r.1.2,s]∧RSl Qdt 2 F w v r.1.1∧I64 r.1.2∧RTx s r.2
def REd (_:Nat→Prop) (_:World) (cs:List Value) (e:Edt):Prop:=
 ∃s,cs=[.int .i64 e.kind,.int .i64 e.at_,.int .i64 e.many,s]∧I64 e.kind∧I64 e.at_∧I64 e.many∧RTx s e.text
structure De where
 kind:Int
 run:Rn
 mark:Mk
 many:Int
def RDe (F:Nat→Prop) (w:World) (cs:List Value) (d:De):Prop:=
 ∃v s u,cs=[.int .i64 d.kind,v,.int .i64 d.run.1.2,s,u,.int .i64 d.mark.2,.int .i64 d.many]∧I64 d.kind∧RSl Qdt 2 F w v d.run.1.1∧I64 d.run.1.2∧RTx s d.run.2∧
  RSl Qdt 2 F w u d.mark.1∧I64 d.mark.2∧I64 d.many
abbrev St:=List At×List Mk
def RSt (F:Nat→Prop) (w:World) (cs:List Value) (s:St):Prop:=∃v u,cs=[v,u]∧RSl RAt 3 F w v s.1∧RSl RMk 2 F w u s.2
structure No where
 site:Int
 number:Int
 needs:List Int
 deeds:List De
def RNo (F:Nat→Prop) (w:World) (cs:List Value) (n:No):Prop:=
 ∃v u,cs=[.int .i64 n.site,.int .i64 n.number,v,u]∧I64 n.site∧I64 n.number∧RSl Qe1 1 F w v n.needs∧RSl RDe 7 F w u n.deeds
structure Dk where
 site:Int
 state:St
 seen:List Int
 waits:List No
 clock:Int
 out:List No
def RDk (F:Nat→Prop) (w:World) (cs:List Value) (d:Dk):Prop:=
 ∃va vg vs vw vo,cs=[.int .i64 d.site,va,vg,vs,vw,.int .i64 d.clock,vo]∧I64 d.site∧RSl RAt 3 F w va d.state.1∧RSl RMk 2 F w vg d.state.2∧RSl Qe1 1 F w vs d.seen∧
  RSl RNo 4 F w vw d.waits∧I64 d.clock∧RSl RNo 4 F w vo d.out
theorem Qd6:Good Qe1:=⟨fun _ h=>h,fun _ h=>h⟩
theorem Qap:Good Qdt:=⟨fun _ h=>h,fun _ h=>h⟩
theorem gMk:Good RMk:=⟨fun hk ⟨v,e,h,i⟩=>⟨v,e,h.keep Qap hk,i⟩,fun hg ⟨v,e,h,i⟩=>⟨v,e,h.more Qap hg,i⟩⟩
theorem gAt:Good RAt:=⟨fun hk ⟨v,e,h,i⟩=>⟨v,e,h.keep Qap hk,i⟩,fun hg ⟨v,e,h,i⟩=>⟨v,e,h.more Qap hg,i⟩⟩
theorem gRn:Good RRn:=⟨fun hk ⟨v,s,e,h,i⟩=>⟨v,s,e,h.keep Qap hk,i⟩,fun hg ⟨v,s,e,h,i⟩=>⟨v,s,e,h.more Qap hg,i⟩⟩
theorem gEd:Good REd:=⟨fun _ h=>h,fun _ h=>h⟩
theorem gDe:Good RDe:=
 ⟨fun hk ⟨v,s,u,e,h1,h2,h3,h4,h5,h6⟩=>⟨v,s,u,e,h1,h2.keep Qap hk,h3,h4,h5.keep Qap hk,h6⟩,
  fun hg ⟨v,s,u,e,h1,h2,h3,h4,h5,h6⟩=>⟨v,s,u,e,h1,h2.more Qap hg,h3,h4,h5.more Qap hg,h6⟩⟩
theorem gSt:Good RSt:=⟨fun hk ⟨v,u,e,h1,h2⟩=>⟨v,u,e,h1.keep gAt hk,h2.keep gMk hk⟩,fun hg ⟨v,u,e,h1,h2⟩=>⟨v,u,e,h1.more gAt hg,h2.more gMk hg⟩⟩
theorem gNo:Good RNo:=
 ⟨fun hk ⟨v,u,e,h1,h2,h3,h4⟩=>⟨v,u,e,h1,h2,h3.keep Qd6 hk,h4.keep gDe hk⟩,fun hg ⟨v,u,e,h1,h2,h3,h4⟩=>⟨v,u,e,h1,h2,h3.more Qd6 hg,h4.more gDe hg⟩⟩
theorem gDk:Good RDk:=
 ⟨fun hk ⟨a,b,c,d,f,e,h1,h2,h3,h4,h5,h6,h7⟩=>⟨a,b,c,d,f,e,h1,h2.keep gAt hk,h3.keep gMk hk,h4.keep Qd6 hk,h5.keep gNo hk,h6,h7.keep gNo hk⟩,
  fun hg ⟨a,b,c,d,f,e,h1,h2,h3,h4,h5,h6,h7⟩=>⟨a,b,c,d,f,e,h1,h2.more gAt hg,h3.more gMk hg,h4.more Qd6 hg,h5.more gNo hg,h6,h7.more gNo hg⟩⟩
theorem RSl.at_ {α:Type} {R:Rd α} {sz F w a n cap} {l:List α} (h:RSl R sz F w (.slice a n cap) l) {i:Nat} (hi:i<n):
  ∃b o x cs,a=some ⟨b,o,none⟩∧b<w.heap.size∧l[i]?=some x∧cs.length=sz∧w.rangeAt b (o+i * sz) cs∧R F w cs x:=by
 obtain⟨a',cap',e,_,_,h3⟩:=h;injection e with e1 e2 e3
 subst e1;subst e2;have hne:l≠[]:=by rintro rfl;simp at hi
 obtain⟨b,o,e2,hF,hl,hx⟩:=h3 hne;obtain⟨cs,c1,c2,c3⟩:=hx i l[i] (List.getElem?_eq_getElem hi);exact⟨b,o,l[i],cs,e2,hl,List.getElem?_eq_getElem hi,c1,c2,c3⟩
theorem RSl.len {α:Type} {R:Rd α} {sz F w a n cap} {l:List α} (h:RSl R sz F w (.slice a n cap) l):n=l.length∧n≤cap∧cap≤maxLen:=by
 obtain⟨a',cap',e,h1,h2,_⟩:=h;injection e with e1 e2 e3
 subst e2;subst e3;exact⟨rfl,h1,h2⟩
theorem RSl.slice {α:Type} {R:Rd α} {sz F w v} {l:List α} (h:RSl R sz F w v l):∃a n cap,v= .slice a n cap:=by
 obtain⟨a,cap,e,_⟩:=h;exact⟨a,_,cap,e⟩
theorem RSl.nil_ {α:Type} {R:Rd α} {sz F w a cap} (hc:cap≤maxLen):RSl R sz F w (.slice a 0 cap) ([]:List α):=⟨a,cap,rfl,Nat.zero_le _,hc,fun h=>absurd rfl h⟩
end Cp
