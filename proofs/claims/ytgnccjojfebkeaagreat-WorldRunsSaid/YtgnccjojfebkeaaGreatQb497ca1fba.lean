/- Small laws that all walks share. -/
import Derived.WalkKit
import Derived.WalkSpells
import Derived.WalkLawsBesides
import Derived.Lib.Hide
import Derived.Deep.RegionHeld3
import Derived.StillTailTactics
import Derived.Deep.QuietTactic
import Derived.BigQuiet
import Derived.Deep.Draws
import Derived.Deep.RegionWith
import Derived.Test.YtgnccjojfebkeaaGreatQ7ca6115a38
import Derived.Test.YtgnccjojfebkeaaGreatRows
set_option linter.unusedVariables false
set_option linter.unusedSimpArgs false
set_option maxRecDepth 100000
set_option maxHeartbeats 4000000
namespace Cp
open Go Go.RowKit
def Ext (a w:World):Prop:=Below a.heap.size a w
theorem ext_refl (w:World):Ext w w:=Below.refl _ _
theorem ext_trans {a b c:World} (h:Ext a b) (k:Ext b c):Ext a c:=Below.trans h (Below.mono k h.size)
theorem Qan {a b c:World} (h:Ext a b) (k:Ext b c):Ext a c:=ext_trans h k
theorem ext_drew {a w:World} (h:Ext a w):Ext a w.drew:=Below.drew h
theorem ext_drewN {a w:World} (h:Ext a w) (n:Nat):Ext a (w.drewN n):=by
 have h':Below a.heap.size a w:=h;exact⟨h'.os,h'.tape,h'.output,h'.size,h'.block⟩
theorem ext_alloc {a w:World} (h:Ext a w) (o:Obj):Ext a (w.alloc o):=Below.alloc h h.size o
theorem ext_set {a w:World} (h:Ext a w) {p:Addr} (hp:a.heap.size≤p.block) (u:Value):Ext a (w.setCell p u):=Below.setCell h hp u
theorem Qd5 {a w w':World} {row:Option Nat} (h:Ext a w) (hg:w.grownBy w' row) (hr:∀k,row=some k→a.heap.size≤k):Ext a w':=Below.grown h hg h.size hr
theorem Ext.size {a w:World} (h:Ext a w):a.heap.size≤w.heap.size:=Below.size h
theorem Ext.cells {a w:World} (h:Ext a w):∀b o,b<a.heap.size→w.cell? ⟨b,o,none⟩=a.cell? ⟨b,o,none⟩:=fun _ o hb=>Below.cell (p:=⟨_,o,none⟩) h hb
theorem Ext.frz {a w:World} (h:Ext a w):∀b o,b<a.heap.size→w.frozen? ⟨b,o,none⟩=a.frozen? ⟨b,o,none⟩:=fun _ o hb=>Below.frozen (p:=⟨_,o,none⟩) h hb
theorem Ext.below {a w:World} (h:Ext a w):Below a.heap.size a w:=h
theorem Ext.range {a w:World} (h:Ext a w) {b o:Nat} {cs:List Value} (hb:b<a.heap.size) (hc:a.rangeAt b o cs):w.rangeAt b o cs:=Qlg hc (Below.block h b hb)
theorem Good.ext {α:Type} {R:Rd α} (g:Good R) {F w w' cs x} (h:R F w cs x) (hb:Ext w w'):R F w' cs x:=g.keep (.of_below hb) h
theorem RSl.ext {α:Type} {R:Rd α} (g:Good R) {sz F w w' v} {l:List α} (h:RSl R sz F w v l) (hb:Ext w w'):RSl R sz F w' v l:=h.keep g (.of_below hb)
theorem Qae {F:Nat→Prop} {a w:World} (h:Keeps F a w) {p:Addr} (hp:p.block<a.heap.size→¬F p.block) (u:Value):Keeps F a (w.setCell p u):=
 ⟨by simpa [World.setCell] using h.size,fun k hk hl=>(Below.heap_setCell w p u k (fun e=>by subst e;exact hp hl hk)).trans (h.block k hk hl)⟩
theorem Qa1 {F:Nat→Prop} {a w:World} (h:Keeps F a w) (o:Obj):Keeps F a (w.alloc o):=
 ⟨Nat.le_trans h.size (by simp),fun k hk hl=>(Below.heap_alloc w o k (Nat.lt_of_lt_of_le hl h.size)).trans (h.block k hk hl)⟩
theorem Qbh {F:Nat→Prop} {a w:World} (h:Keeps F a w):Keeps F a w.drew:=⟨h.size,h.block⟩
theorem Qdq {F:Nat→Prop} {a w w':World} (h:Keeps F a w) (k:Ext w w'):Keeps F a w':=h.trans (.of_below k)
theorem Qag {F:Nat→Prop} {a:World}:Keeps F a a:= .refl _ _
theorem Qez {w:World} {b o:Nat} {x:Value} (h0:w.cell? ⟨b,o,none⟩=some x):w.rangeAt b o [x]:=by
 intro j v hv
 match j,hv with
 |0,hv=>(have:x=v:=(by simpa using hv);subst this;exact h0)
theorem Qlf {w:World} {b o:Nat} {x y:Value} (h0:w.cell? ⟨b,o,none⟩=some x) (h1:w.cell? ⟨b,o+1,none⟩=some y):w.rangeAt b o [x,y]:=by
 intro j v hv
 match j,hv with
 |0,hv=>(have:x=v:=(by simpa using hv);subst this;exact h0)
 |1,hv=>(have:y=v:=(by simpa using hv);subst this;exact h1)
theorem Qfi {w:World} {b o:Nat} {x y z:Value} (h0:w.cell? ⟨b,o,none⟩=some x) (h1:w.cell? ⟨b,o+1,none⟩=some y) (h2:w.cell? ⟨b,o+2,none⟩=some z):w.rangeAt b o [x,y,z]:=by
 intro j v hv
 match j,hv with
 |0,hv=>(have:x=v:=(by simpa using hv);subst this;exact h0)
 |1,hv=>(have:y=v:=(by simpa using hv);subst this;exact h1)
 |2,hv=>(have:z=v:=(by simpa using hv);subst this;exact h2)
theorem ri {k:IntKind} {a b:Int} (h:a=b):Ending.returned (.int k a)= .returned (.int k b):=by rw[h]
theorem rb {a b:Bool} (h:a=b):Ending.returned (.bool a)= .returned (.bool b):=by rw[h]
theorem Qhb {P:Program} {id:Nat} {Q:Exit→Act→World→Prop} {a:Act} {w:World} {l:List Oper} (n:Nat) (hm:P.follows .mixedOrders=true) (hB:Region.lexTailB .any l.toArray n=true)
  (h:wpStill P l.toArray w.drew (fun a'=>wpList P l.toArray Q (l.drop n) a' w.drew) (l.take n) a):(Code.region id l.toArray true).wp P Q a w:=
 wp_region_still_tail n hm hB h
theorem Qfb {F w a n cap} {l:List Stp} (h:RSl Qdt 2 F w (.slice a n cap) l) {i:Nat} (hi:i<n):
  ∃b o x y,a=some ⟨b,o,none⟩∧b<w.heap.size∧l[i]?=some (x,y)∧I64 x∧I64 y∧w.cell? ⟨b,o+i * 2,none⟩=some (.int .i64 x)∧w.cell? ⟨b,o+i * 2+1,none⟩=some (.int .i64 y):=by
 obtain⟨b,o,x,cs,e1,e2,e3,_,e4,⟨rfl,i1,i2⟩⟩:=h.at_ hi;exact⟨b,o,x.1,x.2,e1,e2,e3,i1,i2,by simpa using e4 0 _ rfl,by simpa [Nat.add_assoc] using e4 1 _ rfl⟩
theorem Qac {a w:World} (h:Ext a w:=by repeat(first|(with_reducible exact Cp.ext_refl _)|(with_reducible assumption)|(with_reducible refine Cp.ext_drew ?_)|(with_reducible refine Cp.ext_drewN ?_ _)|(with_reducible refine Cp.ext_alloc ?_ _)|(with_reducible refine Cp.ext_set ?_ (by first|omega|(simp<;>omega)) _)|(with_reducible refine Cp.ext_trans ?_ (by with_reducible assumption)))):Ext a w:=h
theorem cC2 {w w':World} (h:Ext w w') (b:Nat) (v0 v1:Value) (z:b<w.heap.size:=by first|omega|(simp<;>omega)) (e0:w.cell? ⟨b,0,none⟩=some v0:=by first|(with_reducible assumption)|go_simp) (e1:w.cell? ⟨b,1,none⟩=some v1:=by first|(with_reducible assumption)|go_simp):w'.cell? ⟨b,0,none⟩=some v0∧w'.cell? ⟨b,1,none⟩=some v1:=⟨(h.cells b 0 z).trans e0,(h.cells b 1 z).trans e1⟩
theorem tT2 {w w':World} (h:Ext w w') {b:Nat} {v0 v1:Value} (z:b<w.heap.size) (e0:w.cell? ⟨b,0,none⟩=some v0) (e1:w.cell? ⟨b,1,none⟩=some v1):w'.cell? ⟨b,0,none⟩=some v0∧w'.cell? ⟨b,1,none⟩=some v1:=⟨(h.cells b 0 z).trans e0,(h.cells b 1 z).trans e1⟩
theorem rR2 {w w':World} (h:w'=w) (b:Nat) (v0 v1:Value) (e0:w.cell? ⟨b,0,none⟩=some v0:=by go_simp) (e1:w.cell? ⟨b,1,none⟩=some v1:=by go_simp):w'.cell? ⟨b,0,none⟩=some v0∧w'.cell? ⟨b,1,none⟩=some v1:=⟨h▸e0,h▸e1⟩
theorem cC3 {w w':World} (h:Ext w w') (b:Nat) (v0 v1 v2:Value) (z:b<w.heap.size:=by first|omega|(simp<;>omega)) (e0:w.cell? ⟨b,0,none⟩=some v0:=by first|(with_reducible assumption)|go_simp) (e1:w.cell? ⟨b,1,none⟩=some v1:=by first|(with_reducible assumption)|go_simp) (e2:w.cell? ⟨b,2,none⟩=some v2:=by first|(with_reducible assumption)|go_simp):w'.cell? ⟨b,0,none⟩=some v0∧w'.cell? ⟨b,1,none⟩=some v1∧w'.cell? ⟨b,2,none⟩=some v2:=⟨(h.cells b 0 z).trans e0,(h.cells b 1 z).trans e1,(h.cells b 2 z).trans e2⟩
theorem tT3 {w w':World} (h:Ext w w') {b:Nat} {v0 v1 v2:Value} (z:b<w.heap.size) (e0:w.cell? ⟨b,0,none⟩=some v0) (e1:w.cell? ⟨b,1,none⟩=some v1) (e2:w.cell? ⟨b,2,none⟩=some v2):w'.cell? ⟨b,0,none⟩=some v0∧w'.cell? ⟨b,1,none⟩=some v1∧w'.cell? ⟨b,2,none⟩=some v2:=⟨(h.cells b 0 z).trans e0,(h.cells b 1 z).trans e1,(h.cells b 2 z).trans e2⟩
theorem rR3 {w w':World} (h:w'=w) (b:Nat) (v0 v1 v2:Value) (e0:w.cell? ⟨b,0,none⟩=some v0:=by go_simp) (e1:w.cell? ⟨b,1,none⟩=some v1:=by go_simp) (e2:w.cell? ⟨b,2,none⟩=some v2:=by go_simp):w'.cell? ⟨b,0,none⟩=some v0∧w'.cell? ⟨b,1,none⟩=some v1∧w'.cell? ⟨b,2,none⟩=some v2:=⟨h▸e0,h▸e1,h▸e2⟩
theorem cC4 {w w':World} (h:Ext w w') (b:Nat) (v0 v1 v2 v3:Value) (z:b<w.heap.size:=by first|omega|(simp<;>omega)) (e0:w.cell? ⟨b,0,none⟩=some v0:=by first|(with_reducible assumption)|go_simp) (e1:w.cell? ⟨b,1,none⟩=some v1:=by first|(with_reducible assumption)|go_simp) (e2:w.cell? ⟨b,2,none⟩=some v2:=by first|(with_reducible assumption)|go_simp) (e3:w.cell? ⟨b,3,none⟩=some v3:=by first|(with_reducible assumption)|go_simp):w'.cell? ⟨b,0,none⟩=some v0∧w'.cell? ⟨b,1,none⟩=some v1∧w'.cell? ⟨b,2,none⟩=some v2∧w'.cell? ⟨b,3,none⟩=some v3:=⟨(h.cells b 0 z).trans e0,(h.cells b 1 z).trans e1,(h.cells b 2 z).trans e2,(h.cells b 3 z).trans e3⟩
theorem tT4 {w w':World} (h:Ext w w') {b:Nat} {v0 v1 v2 v3:Value} (z:b<w.heap.size) (e0:w.cell? ⟨b,0,none⟩=some v0) (e1:w.cell? ⟨b,1,none⟩=some v1) (e2:w.cell? ⟨b,2,none⟩=some v2) (e3:w.cell? ⟨b,3,none⟩=some v3):w'.cell? ⟨b,0,none⟩=some v0∧w'.cell? ⟨b,1,none⟩=some v1∧w'.cell? ⟨b,2,none⟩=some v2∧w'.cell? ⟨b,3,none⟩=some v3:=⟨(h.cells b 0 z).trans e0,(h.cells b 1 z).trans e1,(h.cells b 2 z).trans e2,(h.cells b 3 z).trans e3⟩
theorem rR4 {w w':World} (h:w'=w) (b:Nat) (v0 v1 v2 v3:Value) (e0:w.cell? ⟨b,0,none⟩=some v0:=by go_simp) (e1:w.cell? ⟨b,1,none⟩=some v1:=by go_simp) (e2:w.cell? ⟨b,2,none⟩=some v2:=by go_simp) (e3:w.cell? ⟨b,3,none⟩=some v3:=by go_simp):w'.cell? ⟨b,0,none⟩=some v0∧w'.cell? ⟨b,1,none⟩=some v1∧w'.cell? ⟨b,2,none⟩=some v2∧w'.cell? ⟨b,3,none⟩=some v3:=⟨h▸e0,h▸e1,h▸e2,h▸e3⟩
theorem tT6 {w w':World} (h:Ext w w') {b:Nat} {v0 v1 v2 v3 v4 v5:Value} (z:b<w.heap.size) (e0:w.cell? ⟨b,0,none⟩=some v0) (e1:w.cell? ⟨b,1,none⟩=some v1) (e2:w.cell? ⟨b,2,none⟩=some v2) (e3:w.cell? ⟨b,3,none⟩=some v3) (e4:w.cell? ⟨b,4,none⟩=some v4) (e5:w.cell? ⟨b,5,none⟩=some v5):w'.cell? ⟨b,0,none⟩=some v0∧w'.cell? ⟨b,1,none⟩=some v1∧w'.cell? ⟨b,2,none⟩=some v2∧w'.cell? ⟨b,3,none⟩=some v3∧w'.cell? ⟨b,4,none⟩=some v4∧w'.cell? ⟨b,5,none⟩=some v5:=⟨(h.cells b 0 z).trans e0,(h.cells b 1 z).trans e1,(h.cells b 2 z).trans e2,(h.cells b 3 z).trans e3,(h.cells b 4 z).trans e4,(h.cells b 5 z).trans e5⟩
theorem cC7 {w w':World} (h:Ext w w') (b:Nat) (v0 v1 v2 v3 v4 v5 v6:Value) (z:b<w.heap.size:=by first|omega|(simp<;>omega)) (e0:w.cell? ⟨b,0,none⟩=some v0:=by first|(with_reducible assumption)|go_simp) (e1:w.cell? ⟨b,1,none⟩=some v1:=by first|(with_reducible assumption)|go_simp) (e2:w.cell? ⟨b,2,none⟩=some v2:=by first|(with_reducible assumption)|go_simp) (e3:w.cell? ⟨b,3,none⟩=some v3:=by first|(with_reducible assumption)|go_simp) (e4:w.cell? ⟨b,4,none⟩=some v4:=by first|(with_reducible assumption)|go_simp) (e5:w.cell? ⟨b,5,none⟩=some v5:=by first|(with_reducible assumption)|go_simp) (e6:w.cell? ⟨b,6,none⟩=some v6:=by first|(with_reducible assumption)|go_simp):w'.cell? ⟨b,0,none⟩=some v0∧w'.cell? ⟨b,1,none⟩=some v1∧w'.cell? ⟨b,2,none⟩=some v2∧w'.cell? ⟨b,3,none⟩=some v3∧w'.cell? ⟨b,4,none⟩=some v4∧w'.cell? ⟨b,5,none⟩=some v5∧w'.cell? ⟨b,6,none⟩=some v6:=⟨(h.cells b 0 z).trans e0,(h.cells b 1 z).trans e1,(h.cells b 2 z).trans e2,(h.cells b 3 z).trans e3,(h.cells b 4 z).trans e4,(h.cells b 5 z).trans e5,(h.cells b 6 z).trans e6⟩
theorem tT7 {w w':World} (h:Ext w w') {b:Nat} {v0 v1 v2 v3 v4 v5 v6:Value} (z:b<w.heap.size) (e0:w.cell? ⟨b,0,none⟩=some v0) (e1:w.cell? ⟨b,1,none⟩=some v1) (e2:w.cell? ⟨b,2,none⟩=some v2) (e3:w.cell? ⟨b,3,none⟩=some v3) (e4:w.cell? ⟨b,4,none⟩=some v4) (e5:w.cell? ⟨b,5,none⟩=some v5) (e6:w.cell? ⟨b,6,none⟩=some v6):w'.cell? ⟨b,0,none⟩=some v0∧w'.cell? ⟨b,1,none⟩=some v1∧w'.cell? ⟨b,2,none⟩=some v2∧w'.cell? ⟨b,3,none⟩=some v3∧w'.cell? ⟨b,4,none⟩=some v4∧w'.cell? ⟨b,5,none⟩=some v5∧w'.cell? ⟨b,6,none⟩=some v6:=⟨(h.cells b 0 z).trans e0,(h.cells b 1 z).trans e1,(h.cells b 2 z).trans e2,(h.cells b 3 z).trans e3,(h.cells b 4 z).trans e4,(h.cells b 5 z).trans e5,(h.cells b 6 z).trans e6⟩
theorem fF7 {w w':World} (h:Ext w w') {b:Nat} (z:b<w.heap.size) (e0:w.frozen? ⟨b,0,none⟩=false) (e1:w.frozen? ⟨b,1,none⟩=false) (e2:w.frozen? ⟨b,2,none⟩=false) (e3:w.frozen? ⟨b,3,none⟩=false) (e4:w.frozen? ⟨b,4,none⟩=false) (e5:w.frozen? ⟨b,5,none⟩=false) (e6:w.frozen? ⟨b,6,none⟩=false):w'.frozen? ⟨b,0,none⟩=false∧w'.frozen? ⟨b,1,none⟩=false∧w'.frozen? ⟨b,2,none⟩=false∧w'.frozen? ⟨b,3,none⟩=false∧w'.frozen? ⟨b,4,none⟩=false∧w'.frozen? ⟨b,5,none⟩=false∧w'.frozen? ⟨b,6,none⟩=false:=⟨(h.frz b 0 z).trans e0,(h.frz b 1 z).trans e1,(h.frz b 2 z).trans e2,(h.frz b 3 z).trans e3,(h.frz b 4 z).trans e4,(h.frz b 5 z).trans e5,(h.frz b 6 z).trans e6⟩
theorem rR7 {w w':World} (h:w'=w) (b:Nat) (v0 v1 v2 v3 v4 v5 v6:Value) (e0:w.cell? ⟨b,0,none⟩=some v0:=by go_simp) (e1:w.cell? ⟨b,1,none⟩=some v1:=by go_simp) (e2:w.cell? ⟨b,2,none⟩=some v2:=by go_simp) (e3:w.cell? ⟨b,3,none⟩=some v3:=by go_simp) (e4:w.cell? ⟨b,4,none⟩=some v4:=by go_simp) (e5:w.cell? ⟨b,5,none⟩=some v5:=by go_simp) (e6:w.cell? ⟨b,6,none⟩=some v6:=by go_simp):w'.cell? ⟨b,0,none⟩=some v0∧w'.cell? ⟨b,1,none⟩=some v1∧w'.cell? ⟨b,2,none⟩=some v2∧w'.cell? ⟨b,3,none⟩=some v3∧w'.cell? ⟨b,4,none⟩=some v4∧w'.cell? ⟨b,5,none⟩=some v5∧w'.cell? ⟨b,6,none⟩=some v6:=⟨h▸e0,h▸e1,h▸e2,h▸e3,h▸e4,h▸e5,h▸e6⟩
theorem cC8 {w w':World} (h:Ext w w') (b:Nat) (v0 v1 v2 v3 v4 v5 v6 v7:Value) (z:b<w.heap.size:=by first|omega|(simp<;>omega)) (e0:w.cell? ⟨b,0,none⟩=some v0:=by first|(with_reducible assumption)|go_simp) (e1:w.cell? ⟨b,1,none⟩=some v1:=by first|(with_reducible assumption)|go_simp) (e2:w.cell? ⟨b,2,none⟩=some v2:=by first|(with_reducible assumption)|go_simp) (e3:w.cell? ⟨b,3,none⟩=some v3:=by first|(with_reducible assumption)|go_simp) (e4:w.cell? ⟨b,4,none⟩=some v4:=by first|(with_reducible assumption)|go_simp) (e5:w.cell? ⟨b,5,none⟩=some v5:=by first|(with_reducible assumption)|go_simp) (e6:w.cell? ⟨b,6,none⟩=some v6:=by first|(with_reducible assumption)|go_simp) (e7:w.cell? ⟨b,7,none⟩=some v7:=by first|(with_reducible assumption)|go_simp):w'.cell? ⟨b,0,none⟩=some v0∧w'.cell? ⟨b,1,none⟩=some v1∧w'.cell? ⟨b,2,none⟩=some v2∧w'.cell? ⟨b,3,none⟩=some v3∧w'.cell? ⟨b,4,none⟩=some v4∧w'.cell? ⟨b,5,none⟩=some v5∧w'.cell? ⟨b,6,none⟩=some v6∧w'.cell? ⟨b,7,none⟩=some v7:=⟨(h.cells b 0 z).trans e0,(h.cells b 1 z).trans e1,(h.cells b 2 z).trans e2,(h.cells b 3 z).trans e3,(h.cells b 4 z).trans e4,(h.cells b 5 z).trans e5,(h.cells b 6 z).trans e6,(h.cells b 7 z).trans e7⟩
theorem rR8 {w w':World} (h:w'=w) (b:Nat) (v0 v1 v2 v3 v4 v5 v6 v7:Value) (e0:w.cell? ⟨b,0,none⟩=some v0:=by go_simp) (e1:w.cell? ⟨b,1,none⟩=some v1:=by go_simp) (e2:w.cell? ⟨b,2,none⟩=some v2:=by go_simp) (e3:w.cell? ⟨b,3,none⟩=some v3:=by go_simp) (e4:w.cell? ⟨b,4,none⟩=some v4:=by go_simp) (e5:w.cell? ⟨b,5,none⟩=some v5:=by go_simp) (e6:w.cell? ⟨b,6,none⟩=some v6:=by go_simp) (e7:w.cell? ⟨b,7,none⟩=some v7:=by go_simp):w'.cell? ⟨b,0,none⟩=some v0∧w'.cell? ⟨b,1,none⟩=some v1∧w'.cell? ⟨b,2,none⟩=some v2∧w'.cell? ⟨b,3,none⟩=some v3∧w'.cell? ⟨b,4,none⟩=some v4∧w'.cell? ⟨b,5,none⟩=some v5∧w'.cell? ⟨b,6,none⟩=some v6∧w'.cell? ⟨b,7,none⟩=some v7:=⟨h▸e0,h▸e1,h▸e2,h▸e3,h▸e4,h▸e5,h▸e6,h▸e7⟩
theorem cL {w w':World} (h:Ext w w') (b i:Nat) (v:Value) (z:b<w.heap.size:=by first|omega|(simp<;>omega)) (e:w.cell? ⟨b,i,none⟩=some v:=by first|(with_reducible assumption)|go_simp):w'.cell? ⟨b,i,none⟩=some v:=(h.cells b i z).trans e
theorem fL {w w':World} (h:Ext w w') (b i:Nat) (z:b<w.heap.size:=by first|omega|(simp<;>omega)) (e:w.frozen? ⟨b,i,none⟩=false:=by first|(with_reducible assumption)|go_simp):w'.frozen? ⟨b,i,none⟩=false:=(h.frz b i z).trans e
theorem rL {w w':World} (h:w'=w) (a:Addr) (v:Value) (e:w.cell? a=some v:=by go_simp):w'.cell? a=some v:=h▸e
theorem hH {p:Prop} (h:p):Go.RowKit.Hid p:=h
theorem _root_.Go.RowKit.Hid.o {p:Prop} (h:Go.RowKit.Hid p):p:=h
theorem ltA {p:Prop} (h:p:=by first|omega|(simp<;>omega)):p:=h
theorem asG {p:Prop} (h:p:=by first|(with_reducible assumption)|go_simp):p:=h
theorem zL {w w':World} (h:Ext w w') (b:Nat) (z:b<w.heap.size:=by first|omega|(simp<;>omega)):b<w'.heap.size:=Nat.lt_of_lt_of_le z h.size
theorem zL2 {w w':World} (h:Ext w w') (b:Nat) (z:b+1<w.heap.size:=by first|omega|(simp<;>omega)):b<w'.heap.size∧b+1<w'.heap.size:=⟨Nat.lt_of_lt_of_le (Nat.lt_of_succ_lt z) h.size,Nat.lt_of_lt_of_le z h.size⟩
theorem zL3 {w w':World} (h:Ext w w') (b:Nat) (z:b+1+1<w.heap.size:=by first|omega|(simp<;>omega)):b<w'.heap.size∧b+1<w'.heap.size∧b+1+1<w'.heap.size:=⟨Nat.lt_of_lt_of_le (Nat.lt_of_succ_lt (Nat.lt_of_succ_lt z)) h.size,Nat.lt_of_lt_of_le (Nat.lt_of_succ_lt z) h.size,Nat.lt_of_lt_of_le z h.size⟩
theorem zE {w w':World} (h:w'=w) (b:Nat) (z:b<w.heap.size:=by first|assumption|omega|(simp<;>omega)):b<w'.heap.size:=h▸z
theorem xX {w u v x:World} (H:Go.RowKit.Hid (Ext w u)) (h:Ext v x) (e:Ext u v:=by exact Qac):Go.RowKit.Hid (Ext w x):=ext_trans (ext_trans H.out e) h
theorem xY (w:World) {v x:World} (h:Ext v x) (e:Ext w v:=by exact Qac):Go.RowKit.Hid (Ext w x):=ext_trans e h
theorem xE (w:World) {v x:World} (h:x=v) (e:Ext w v:=by exact Qac):Ext w x:=h▸e
theorem oM {p:Prop} (h:p:=by omega):p:=h
theorem kR {p:Prop} (h:p:=by kernel_rfl):p:=h
theorem gS {p:Prop} (h:p:=by go_simp):p:=h
theorem sI {p:Prop} (h:p:=by simp):p:=h
theorem sO {p:Prop} (h:p:=by simp<;>omega):p:=h
theorem sP {p:Prop} (h:p:=by simp;omega):p:=h
theorem mO {p:Prop} (h:p:=by unfold maxLen;omega):p:=h
theorem dC {p:Prop} (h:p:=by decide):p:=h
end Cp
namespace Go.Proofs.YtgnccjojfebkeaaGreat
open Go Go.RowKit Cp
theorem fol:Tryz.prog.follows .mixedOrders=true:=kR
def inB (n a b:Int):Bool:=decide (a≤n) && decide (n≤b)
theorem Qxe {n a b:Int} (h:n<a):false=inB n a b:=by unfold inB;rw[decide_eq_false oM];rfl
theorem Qr5 {n a b:Int} (h:a≤n):decide (n≤b)=inB n a b:=by unfold inB;rw[decide_eq_true h];rfl
theorem Q1r {a b:Int} (h:b≤a) (k:a≤b):0=Qdl a b:=by unfold Qdl;rw[if_neg oM,if_neg oM]
theorem Q1q {a b:Int} (h:b<a):1=Qdl a b:=by unfold Qdl;rw[if_neg oM,if_pos h]
theorem Qtf {a b:Int} (h:a<b): -1=Qdl a b:=by unfold Qdl;rw[if_pos h]
theorem Qhe (n a b:Int) (w:World):Calls Tryz.prog 181 #[.int .i64 n,.int .i64 a,.int .i64 b] w fun e w'=>e= .returned (.bool (inB n a b))∧w=w':=by
 go_enter Tryz.func181,Tryz.ntmps181;go_wp2
 all_goals go_ret
 all_goals first|exact⟨rb (Qr5 ‹_›),rfl⟩|exact⟨rb (Qxe ‹_›),rfl⟩
theorem Qas (n a b:Int) (w:World):Calls Tryz.prog 66 #[.int .i64 n,.int .i64 a,.int .i64 b] w fun e w'=>e= .returned (.bool (inB n a b))∧w=w':=by
 go_enter Tryz.func66,Tryz.ntmps66;go_wp2
 all_goals go_ret
 all_goals first|exact⟨rb (Qr5 ‹_›),rfl⟩|exact⟨rb (Qxe ‹_›),rfl⟩
theorem Qeq (a b:Int) (w:World):Calls Tryz.prog 149 #[.int .i64 a,.int .i64 b] w fun e w'=>e= .returned (.int .i64 (Qdl a b))∧w=w':=by
 go_enter Tryz.func149,Tryz.ntmps149;go_wp2
 all_goals go_ret
 all_goals first|exact⟨ri (Qtf ‹_›),rfl⟩|exact⟨ri (Q1q ‹_›),rfl⟩|exact⟨ri (Q1r ‹_› ‹_›),rfl⟩
theorem Qoj (a b:Int) (w:World):Calls Tryz.prog 196 #[.int .i64 a,.int .i64 b] w fun e w'=>e= .returned (.int .i64 (Qdl a b))∧w=w':=by
 go_enter Tryz.func196,Tryz.ntmps196;go_wp2
 all_goals go_ret
 all_goals first|exact⟨ri (Qtf ‹_›),rfl⟩|exact⟨ri (Q1q ‹_›),rfl⟩|exact⟨ri (Q1r ‹_› ‹_›),rfl⟩
theorem Qfj (n:Int) (w:World):Calls Tryz.prog 128 #[.int .i64 n] w fun e w'=>e= .returned (.bool (inB n 0 4))∧w=w':=by
 go_enter Tryz.func128,Tryz.ntmps128;go_wp2_with (go_at_call 181;refine(Qhe _ _ _ _).mono ?_;rintro e w' ⟨rfl,rfl⟩)
 go_ret;exact⟨rfl,rfl⟩
theorem Qyb (c:UInt8):Qdm c=inB (c.toNat:Int) 32 126:=rfl
theorem Q1k (c:UInt8):(c.toNat:Int)<256:=by have:=c.toNat_lt;omega
theorem Qlm (c:UInt8) (w:World):Calls Tryz.prog 213 #[.int .u8 (c.toNat:Int)] w fun e w'=>e= .returned (.bool (Qdm c))∧w=w':=by
 rw[Qyb];have h256:=Q1k c;generalize (c.toNat:Int)=n at *;go_enter Tryz.func213,Tryz.ntmps213;go_wp2
 all_goals go_ret
 all_goals first|exact⟨rb (Qr5 ‹_›),rfl⟩|exact⟨rb (Qxe ‹_›),rfl⟩
theorem Qgy (c:UInt8) (w:World):Calls Tryz.prog 177 #[.int .u8 (c.toNat:Int)] w fun e w'=>e= .returned (.bool (Qdm c))∧w=w':=by
 rw[Qyb];have h256:=Q1k c;have h0:0≤(c.toNat:Int):=oM;generalize (c.toNat:Int)=n at *;go_enter Tryz.func177,Tryz.ntmps177;go_wp2_with (go_at_call 66;refine(Qas _ _ _ _).mono ?_;rintro e w' ⟨rfl,rfl⟩)
 go_ret;exact⟨rfl,rfl⟩
theorem Qpj {s:ByteArray} {k:Nat} (hk:k<s.size) (h:Qbj (s.data.toList.take k)=true) (h2:Qdm s[k]=true):Qbj (s.data.toList.take (k+1))=true:=by
 rw[List.take_succ_eq_append_getElem (by simpa using hk)];unfold Qbj at *;rw[List.all_append,h];simp only[Bool.true_and,List.all_cons,List.all_nil,Bool.and_true];exact h2
theorem Qq8 {s:ByteArray} {k:Nat} (hk:k<s.size) (h2:Qdm s[k]=false):false=Qbj s.data.toList:=by
 symm
 unfold Qbj;rw[List.all_eq_false];exact⟨s[k],by rw[List.mem_iff_getElem];exact⟨k,by simpa using hk,rfl⟩,by simp[h2]⟩
theorem Qq9 {s:ByteArray} {k:Nat} (hk:s.size≤k) (h:Qbj (s.data.toList.take k)=true):true=Qbj s.data.toList:=by
 rw[List.take_of_length_le (by simpa using hk)] at h;exact h.symm
theorem Qfa (s:ByteArray) (w:World) (hs:s.size≤maxLen):Calls Tryz.prog 168 #[.string s] w fun e w'=>e= .returned (.bool (Qbj s.data.toList))∧w=w':=by
 unfold maxLen at hs;go_enter Tryz.func168,Tryz.ntmps168;go_wp2
 go_loop [6] (fun i=>∃k:Nat,k≤s.size∧i= .int .i64 k∧Hid (Qbj (s.data.toList.take k)=true)) (fun i=>s.size-(intOf i).toNat)
 case atStart=>exact⟨0,Nat.zero_le _,rfl,rfl⟩
 case round=>
  obtain⟨k,hk,rfl,h⟩:=hrel;by_cases hlt:k<s.size
  ·cases g:Qdm s[k] with
   |true=>
    go_wp2_with (go_at_call 213;((with_reducible refine(Qlm _ _).mono ?_);rintro e w' ⟨rfl,rfl⟩))
    go_round
    case rel=>exact⟨k+1,oM,by go_num,Qpj hlt h.out g⟩
    case measure=>simp[intOf];omega
   |false=>
    go_wp2_with (go_at_call 213;((with_reducible refine(Qlm _ _).mono ?_);rintro e w' ⟨rfl,rfl⟩))
    go_ret;exact⟨rb (Qq8 hlt g),rfl⟩
  ·go_wp2
   go_ret;exact⟨rb (Qq9 oM h.out),rfl⟩
theorem Qml (s:ByteArray) (w:World) (hs:s.size≤maxLen):Calls Tryz.prog 116 #[.string s] w fun e w'=>e= .returned (.bool (Qbj s.data.toList))∧w=w':=by
 unfold maxLen at hs;go_enter Tryz.func116,Tryz.ntmps116;go_wp2
 go_loop [3] (fun i=>∃k:Nat,k≤s.size∧i= .int .i64 k∧Hid (Qbj (s.data.toList.take k)=true)) (fun i=>s.size-(intOf i).toNat)
 case atStart=>exact⟨0,Nat.zero_le _,rfl,rfl⟩
 case round=>
  obtain⟨k,hk,rfl,h⟩:=hrel;by_cases hlt:k<s.size
  ·cases g:Qdm s[k] with
   |true=>
    go_wp2_with (go_at_call 177;((with_reducible refine(Qgy _ _).mono ?_);rintro e w' ⟨rfl,rfl⟩))
    go_round
    case rel=>exact⟨k+1,oM,by go_num,Qpj hlt h.out g⟩
    case measure=>simp[intOf];omega
   |false=>
    go_wp2_with (go_at_call 177;((with_reducible refine(Qgy _ _).mono ?_);rintro e w' ⟨rfl,rfl⟩))
    go_ret;exact⟨rb (Qq8 hlt g),rfl⟩
  ·go_wp2
   go_ret;exact⟨rb (Qq9 oM h.out),rfl⟩
def orI (a b:Int):Int:=if a=0 then b else a
theorem Q3b (a b:Int) (g:Nat) (w:World) (h0:w.cell? ⟨g,0,none⟩=some (.int .i64 a)) (h1:w.cell? ⟨g,1,none⟩=some (.int .i64 b)):
  Calls Tryz.prog 195 #[.slice (some ⟨g,0,none⟩) 2 2] w fun e w'=>e= .returned (.int .i64 (orI a b))∧w=w':=by
 by_cases ha:a=0
 ·have e1:orI a b=b:=by unfold orI;rw[if_pos ha]
  rw[e1];clear e1;subst ha;by_cases hb:b=0
  ·subst hb;go_enter Tryz.func195,Tryz.ntmps195;go_wp2
   refine wp_loop_rounds 3 ?_;rw[rounds_succ];go_wp2
   rw[rounds_succ];go_wp2
   rw[rounds_succ];go_wp2
   go_ret;exact⟨rfl,rfl⟩
  ·have hb':(b !=0)=true:=by rw[bne_iff_ne];exact hb
   clear hb;go_enter Tryz.func195,Tryz.ntmps195;go_wp2
   refine wp_loop_rounds 2 ?_;rw[rounds_succ];go_wp2
   rw[rounds_succ];go_wp2
   go_ret;exact⟨rfl,rfl⟩
 ·have e1:orI a b=a:=by unfold orI;rw[if_neg ha]
  rw[e1];have ha':(a !=0)=true:=by rw[bne_iff_ne];exact ha
  clear e1 ha;go_enter Tryz.func195,Tryz.ntmps195;go_wp2
  refine wp_loop_rounds 1 ?_;rw[rounds_succ];go_wp2
  go_ret;exact⟨rfl,rfl⟩
theorem Q96 (a b:Stp):Qh4 a b=orI (Qdl a.1 b.1) (Qdl a.2 b.2):=rfl
theorem Qkm (a b:Int) (w:World):Calls Tryz.prog 196 #[.int .i64 a,.int .i64 b] w fun e w'=>e= .returned (.int .i64 (Qdl a b))∧w'=w:=
 (Qoj a b w).mono fun _ _ h=>⟨h.1,h.2.symm⟩
theorem Quv (a1 a2 b1 b2:Int) (w:World):
  Calls Tryz.prog 241 #[.agg #[.int .i64 a1,.int .i64 a2],.agg #[.int .i64 b1,.int .i64 b2]] w fun e w'=>e= .returned (.int .i64 (Qh4 (a1,a2) (b1,b2)))∧Ext w w':=by
 rw[Q96];go_enter Tryz.func241,Tryz.ntmps241;go_wp2
 refine Qhb 10 fol kR ?_;simp only[List.take_succ_cons,List.take_zero,List.drop_succ_cons,List.drop_zero];repeat still_step
 still_call (Qkm _ _ _)
 repeat still_step
 still_call (Qkm _ _ _)
 repeat still_step
 refine wpStill_nil ?_;go_wp2_with (go_at_call 195;refine(Q3b (Qdl a1 b1) (Qdl a2 b2) _ _ gS gS).mono ?_;rintro e w1 ⟨rfl,rfl⟩)
 go_ret;exact⟨rfl,ext_drew (ext_alloc (ext_alloc (ext_alloc (ext_refl _) _) _) _)⟩
theorem Qla {l m:List Stp} {k:Nat} (hk:k=l.length) (hm:k≤m.length):Qcq (l.drop k) (m.drop k)=if l.length<m.length then -1 else 0:=by
 subst hk;rw[List.drop_eq_nil_of_le (Nat.le_refl _)];split
 ·rename_i h
  rw[List.drop_eq_getElem_cons h];rfl
 ·rw[List.drop_eq_nil_of_le oM];rfl
theorem Qmz {l m:List Stp} {k:Nat} (hk:k<l.length) (hm:m.length≤k):Qcq (l.drop k) (m.drop k)=1:=by
 rw[List.drop_eq_getElem_cons hk,List.drop_eq_nil_of_le hm];rfl
theorem Qgr {l m:List Stp} {k:Nat} {s t:Stp} (h1:l[k]?=some s) (h2:m[k]?=some t):
  Qcq (l.drop k) (m.drop k)=if Qh4 s t=0 then Qcq (l.drop (k+1)) (m.drop (k+1)) else Qh4 s t:=by
 obtain⟨a1,b1⟩:=List.getElem?_eq_some_iff.1 h1;obtain⟨a2,b2⟩:=List.getElem?_eq_some_iff.1 h2;rw[List.drop_eq_getElem_cons a1,List.drop_eq_getElem_cons a2,b1,b2];rfl
theorem Qm7 {F G:Nat→Prop} {w:World} {v u:Value} {l m:List Stp} (hl:RSl Qdt 2 F w v l) (hm:RSl Qdt 2 G w u m):
  Calls Tryz.prog 240 #[v,u,.func (.func 241) #[] #[]] w fun e w'=>e= .returned (.int .i64 (Qcq l m))∧Ext w w':=by
 obtain⟨a1,n1,c1,rfl⟩:=hl.slice;obtain⟨a2,n2,c2,rfl⟩:=hm.slice;obtain⟨rfl,k1,k1'⟩:=hl.len;obtain⟨rfl,k2,k2'⟩:=hm.len;unfold maxLen at k1' k2';have q1:l.length≤9223372036854775807:=oM;have q2:m.length≤9223372036854775807:=oM;clear k1 k1' k2 k2';go_enter Tryz.func240,Tryz.ntmps240;go_wp2
 go_loopw [13] (fun i wr=>∃k:Nat,k≤l.length∧k≤m.length∧i= .int .i64 k∧Hid (Qcq l m=Qcq (l.drop k) (m.drop k))∧Ext w wr) (fun i _=>l.length-(intOf i).toNat)
 case atStart=>exact⟨0,oM,oM,rfl,hH sI,ext_refl _⟩
 case round=>
  obtain⟨k,hk1,hk2,rfl,ho,hx⟩:=hrel;have hl':=hl.ext Qap hx;have hm':=hm.ext Qap hx;by_cases h1:k<l.length
  ·obtain⟨b1,o1,x1,y1,rfl,hb1,e1,_,_,ca,cb⟩:=Qfb hl' h1;by_cases h2:k<m.length
   ·obtain⟨b2,o2,x2,y2,rfl,hb2,e2,_,_,cc,cd⟩:=Qfb hm' h2;have hs:=Qgr e1 e2;have HS:=hH hs;clear hs e1 e2 hl hm hl' hm';have HX:=hH hx;clear hx;have HB1:=hH hb1;have HB2:=hH hb2;by_cases h0:Qh4 (x1,y1) (x2,y2)=0
    ·have h0':(Qh4 (x1,y1) (x2,y2) !=0)=false:=by rw[h0];rfl
     have H0:=hH h0;clear h0;go_wp2_with (go_at_call 241;refine(Quv _ _ _ _ _).mono ?_;rintro e w1 ⟨rfl,hx1⟩)
     go_roundw
     case rel=>exact⟨k+1,oM,oM,by go_num,hH (by rw[ho.out,HS.o,if_pos H0.out]),ext_trans HX.o (ext_trans (ext_alloc (ext_alloc (ext_refl _) _) _) hx1)⟩
     case measure=>simp[intOf];omega
    ·have h0':(Qh4 (x1,y1) (x2,y2) !=0)=true:=by rw[bne_iff_ne];exact h0
     have H0:=hH h0;clear h0;go_wp2_with (go_at_call 241;refine(Quv _ _ _ _ _).mono ?_;rintro e w1 ⟨rfl,hx1⟩)
     go_ret;exact⟨ri (by rw[ho.out,HS.o,if_neg H0.out]),ext_trans HX.o (ext_trans (ext_alloc (ext_alloc (ext_refl _) _) _) hx1)⟩
   ·have HO:=hH (ho.out.trans (Qmz h1 oM));clear ho hl hm hl' hm' e1;have HX:=hH hx;clear hx;go_wp2
    go_ret;exact⟨ri HO.o.symm,ext_trans HX.o (ext_alloc (ext_refl _) _)⟩
  ·have HO:=hH (ho.out.trans (Qla oM hk2));clear ho hl hm hl' hm';have HX:=hH hx;clear hx;by_cases h2:l.length<m.length
   ·go_wp2
    go_ret;exact⟨ri (by rw[HO.o,if_pos h2]),HX.o⟩
   ·go_wp2
    go_ret;exact⟨ri (by rw[HO.o,if_neg h2]),HX.o⟩
theorem Q94 (a b:Mk):Qau a b=orI (Qcq a.1 b.1) (Qdl a.2 b.2):=rfl
theorem Qf2 {F G:Nat→Prop} {w:World} {cs ds:List Value} {a b:Mk} (ha:RMk F w cs a) (hb:RMk G w ds b):
  Calls Tryz.prog 220 #[.agg cs.toArray,.agg ds.toArray] w fun e w'=>e= .returned (.int .i64 (Qau a b))∧Ext w w':=by
 rw[Q94];obtain⟨v,rfl,hl,_⟩:=ha;obtain⟨u,rfl,hm,_⟩:=hb;obtain⟨l,c⟩:=a;obtain⟨m,d⟩:=b;simp only at hl hm ⊢;obtain⟨a1,n1,c1,rfl⟩:=hl.slice;obtain⟨a2,n2,c2,rfl⟩:=hm.slice;have HL:=hH hl;have HM:=hH hm;clear hl hm;go_enter Tryz.func220,Tryz.ntmps220;go_wp2
 go_region_held3 (fun W=>W.cell? ⟨w.heap.size,0,none⟩=some (.slice a1 n1 c1)∧W.cell? ⟨w.heap.size,1,none⟩=some (.int .i64 c)∧W.cell? ⟨w.heap.size+1,0,none⟩=some (.slice a2 n2 c2)∧W.cell? ⟨w.heap.size+1,1,none⟩=some (.int .i64 d))
  (first|go_keep|(refine⟨?_,?_,?_,?_⟩<;>(rw[hx1.cells _ _ sO];go_simp)))
  (first
   |(go_at_call 196;refine(Qoj _ _ _).mono ?_;rintro e w2 ⟨rfl,rfl⟩)
   |(go_at_call 240;refine(Qm7 (HL.o.ext Qap (ext_drew (ext_alloc (ext_alloc (ext_refl _) _) _))) (HM.o.ext Qap (ext_drew (ext_alloc (ext_alloc (ext_refl _) _) _)))).mono ?_;rintro e w1 ⟨rfl,hx1⟩)
   |(go_at_call 195;refine(Q3b (Qcq l m) (Qdl c d) _ _ gS gS).mono ?_;rintro e w2 ⟨rfl,rfl⟩))
 go_wp2
 go_ret;exact⟨rfl,by repeat(first|exact ext_refl _|assumption|refine ext_drew ?_|refine ext_alloc ?_ _|refine Qan ?_ hx1)⟩
theorem Qjp {P:Program} {f:FuncId} {args:Array Value} {w:World} {a n:Nat} {v:Value}
  (h:Calls P f args (w.drewN (a+n)) fun e w'=>e= .returned v∧w'=w.drewN (a+n)):
  Calls P f args (w.drewN (a+n)) fun e w''=>e= .returned v∧∃m,w''=w.drewN (a+m):=
 h.mono fun _ _ ⟨he,hm⟩=>⟨he,n,hm⟩
theorem Qk8 (a b:Int) (w:World):Calls Tryz.prog 149 #[.int .i64 a,.int .i64 b] w fun e w'=>e= .returned (.int .i64 (Qdl a b))∧w'=w:=
 (Qeq a b w).mono fun _ _ h=>⟨h.1,h.2.symm⟩
theorem Q6s {l m:List Stp} {k:Nat} (h1:k≤l.length) (h2:k≤m.length) (h3:¬(k<l.length∧k<m.length)):Qcq (l.drop k) (m.drop k)=Qdl (l.length:Int) (m.length:Int):=by
 by_cases h:k<l.length
 ·rw[Qmz h oM];unfold Qdl;rw[if_neg oM,if_pos oM]
 ·rw[Qla oM h2];split
  ·unfold Qdl;rw[if_pos oM]
  ·unfold Qdl;rw[if_neg oM,if_neg oM]
theorem Q6q {l m:List Stp} {c d:Int} {k:Nat} (ho:Qcq l m=Qcq (l.drop k) (m.drop k)) (h1:k≤l.length) (h2:k≤m.length) (h3:¬(k<l.length∧k<m.length)):
  Qau (l,c) (m,d)=if Qdl (l.length:Int) (m.length:Int)=0 then Qdl c d else Qdl (l.length:Int) (m.length:Int):=by
 unfold Qau;simp only;rw[ho,Q6s h1 h2 h3]
theorem Q3c {l m:List Stp} {c d x:Int} {k:Nat} (ho:Qcq l m=Qcq (l.drop k) (m.drop k)) (hs:Qcq (l.drop k) (m.drop k)=x) (hx:x≠0):Qau (l,c) (m,d)=x:=by
 unfold Qau;simp only;rw[ho,hs,if_neg hx]
theorem Qes {F G:Nat→Prop} {w:World} {cs ds:List Value} {a b:Mk} (ha:RMk F w cs a) (hb:RMk G w ds b):
  Calls Tryz.prog 148 #[.agg cs.toArray,.agg ds.toArray] w fun e w'=>e= .returned (.int .i64 (Qau a b))∧Ext w w':=by
 obtain⟨v,rfl,hl,_⟩:=ha;obtain⟨u,rfl,hm,_⟩:=hb;obtain⟨l,c⟩:=a;obtain⟨m,d⟩:=b;simp only at hl hm ⊢;obtain⟨a1,n1,c1,rfl⟩:=hl.slice;obtain⟨a2,n2,c2,rfl⟩:=hm.slice;obtain⟨rfl,k1,k1'⟩:=hl.len;obtain⟨rfl,k2,k2'⟩:=hm.len;unfold maxLen at k1' k2';have q1:l.length≤9223372036854775807:=oM;have q2:m.length≤9223372036854775807:=oM;clear k1 k1' k2 k2';have HL:=hH hl;have HM:=hH hm;clear hl hm;go_enter Tryz.func148,Tryz.ntmps148;go_wp2
 go_loopw [5] (fun i wr=>∃k:Nat,k≤l.length∧k≤m.length∧i= .int .i64 k∧Hid (Qcq l m=Qcq (l.drop k) (m.drop k))∧Ext ((w.alloc (.cells #[.slice a1 l.length c1,.int .i64 c] 103)).alloc (.cells #[.slice a2 m.length c2,.int .i64 d] 103)) wr) (fun i _=>l.length-(intOf i).toNat)
 case atStart=>exact⟨0,oM,oM,rfl,hH sI,ext_refl _⟩
 case round=>
  obtain⟨k,hk1,hk2,rfl,ho,hx⟩:=hrel;have hw:Ext w wr:=ext_trans (ext_alloc (ext_alloc (ext_refl _) _) _) hx;have z1:wr.cell? ⟨w.heap.size,0,none⟩=some (.slice a1 l.length c1):=(hx.cells _ _ sO).trans gS;have z2:wr.cell? ⟨w.heap.size,1,none⟩=some (.int .i64 c):=(hx.cells _ _ sO).trans gS;have z3:wr.cell? ⟨w.heap.size+1,0,none⟩=some (.slice a2 m.length c2):=(hx.cells _ _ sO).trans gS;have z4:wr.cell? ⟨w.heap.size+1,1,none⟩=some (.int .i64 d):=(hx.cells _ _ sO).trans gS;have HX:=hH hx;have HW:=hH hw;clear hx hw;by_cases h12:k<l.length∧k<m.length
  ·obtain⟨h1,h2⟩:=h12;obtain⟨b1,o1,x1,y1,rfl,hb1,e1,_,_,ca,cb⟩:=Qfb (HL.o.ext Qap HW.o) h1;obtain⟨b2,o2,x2,y2,rfl,hb2,e2,_,_,cc,cd⟩:=Qfb (HM.o.ext Qap HW.o) h2;have HS:=hH (Qgr e1 e2);clear e1 e2 hb1 hb2;have hz:Qdl x1 x2=0→Qh4 (x1,y1) (x2,y2)=Qdl y1 y2:=fun h=>by unfold Qh4;simp[h]
   have hn:Qdl x1 x2≠0→Qh4 (x1,y1) (x2,y2)=Qdl x1 x2:=fun h=>by unfold Qh4;simp[h]
   by_cases h0:Qdl x1 x2=0
   ·have t1:(Qdl x1 x2==0)=true:=by rw[beq_iff_eq];exact h0
    have HZ:=hH (hz h0);clear hz hn h0;by_cases h5:Qdl y1 y2=0
    ·have t2:(Qdl y1 y2 !=0)=false:=by rw[h5];rfl
     have H5:=hH h5;clear h5;go_wp2
     go_quiet ((go_at_call 149;exact Calls.quiet_of_same (Qk8 _ _ _)))
     go_wp2
     go_quiet ((go_at_call 149;exact Qjp (Qk8 _ _ _)))
     go_wp2
     go_roundw
     case rel=>exact⟨k+1,oM,oM,by go_num,hH (by rw[ho.out,HS.o,HZ.o,if_pos H5.out]),ext_drewN HX.o _⟩
     case measure=>simp[intOf];omega
    ·have t2:(Qdl y1 y2 !=0)=true:=by rw[bne_iff_ne];exact h5
     have H5:=hH h5;clear h5;go_wp2
     go_quiet ((go_at_call 149;exact Calls.quiet_of_same (Qk8 _ _ _)))
     go_wp2
     go_quiet ((go_at_call 149;exact Qjp (Qk8 _ _ _)))
     go_wp2
     go_ret;exact⟨ri (Q3c ho.out (HS.o.trans (by rw[HZ.o,if_neg H5.out])) H5.out).symm,ext_drewN HW.o _⟩
   ·have t1:(Qdl x1 x2==0)=false:=by rw[beq_eq_false_iff_ne];exact h0
    have t2:(Qdl x1 x2 !=0)=true:=by rw[bne_iff_ne];exact h0
    have HZ:=hH (hn h0);have H0:=hH h0;clear h0 hz hn;go_wp2
    go_quiet ((go_at_call 149;exact Calls.quiet_of_same (Qk8 _ _ _)))
    go_wp2
    go_ret;exact⟨ri (Q3c ho.out (HS.o.trans (by rw[HZ.o,if_neg H0.out])) H0.out).symm,ext_drewN HW.o _⟩
  ·have HF:=hH (Q6q (c:=c) (d:=d) ho.out hk1 hk2 h12);clear ho;have key:∀(e:Ending) (w1:World),e= .returned (.int .i64 (if Qdl (l.length:Int) (m.length:Int)=0 then Qdl c d else Qdl (l.length:Int) (m.length:Int)))→w1=wr→e= .returned (.int .i64 (Qau (l,c) (m,d)))∧Ext w w1:=fun e w1 h1 h2=>by
    subst h2;exact⟨by rw[h1,HF.o],HW.o⟩
   have KEY:=hH key;clear key;have hfin:∀(x:Int),Qdl (l.length:Int) (m.length:Int)=x→True:=fun _ _=>trivial
   clear hfin;by_cases h5:Qdl (l.length:Int) (m.length:Int)=0
   ·have t2:(Qdl (l.length:Int) (m.length:Int)==0)=true:=by rw[beq_iff_eq];exact h5
    have H5:=hH h5;clear h5;by_cases h1:k<l.length
    ·have h2:¬k<m.length:=fun h=>h12 ⟨h1,h⟩
     clear h12;go_wp2_with (go_at_call 149;refine(Qeq _ _ _).mono ?_;rintro e w2 ⟨rfl,rfl⟩)
     go_ret;exact KEY.out _ _ (ri (by rw[if_pos H5.out])) rfl
    ·clear h12;go_wp2_with (go_at_call 149;refine(Qeq _ _ _).mono ?_;rintro e w2 ⟨rfl,rfl⟩)
     go_ret;exact KEY.out _ _ (ri (by rw[if_pos H5.out])) rfl
   ·have t2:(Qdl (l.length:Int) (m.length:Int)==0)=false:=by rw[beq_eq_false_iff_ne];exact h5
    have H5:=hH h5;clear h5;by_cases h1:k<l.length
    ·have h2:¬k<m.length:=fun h=>h12 ⟨h1,h⟩
     clear h12;go_wp2_with (go_at_call 149;refine(Qeq _ _ _).mono ?_;rintro e w2 ⟨rfl,rfl⟩)
     go_ret;exact KEY.out _ _ (ri (by rw[if_neg H5.out])) rfl
    ·clear h12;go_wp2_with (go_at_call 149;refine(Qeq _ _ _).mono ?_;rintro e w2 ⟨rfl,rfl⟩)
     go_ret;exact KEY.out _ _ (ri (by rw[if_neg H5.out])) rfl
theorem Qjd {F G:Nat→Prop} {w:World} {cs ds:List Value} {a b:Mk} (ha:RMk F w cs a) (hb:RMk G w ds b):
  Calls Tryz.prog 135 #[.agg cs.toArray,.agg ds.toArray] w fun e w'=>e= .returned (.bool (Qau a b==0))∧Ext w w':=by
 have h:=fun(W:World) (hx:Ext w W)=>Qes (gMk.ext ha hx) (gMk.ext hb hx)
 obtain⟨v,rfl,_,_⟩:=ha;obtain⟨u,rfl,_,_⟩:=hb;have H:=hH h;clear h;go_enter Tryz.func135,Tryz.ntmps135;go_wp2_with (go_at_call 148;refine(H.out _ (ext_alloc (ext_alloc (ext_refl _) _) _)).mono ?_;rintro e w1 ⟨rfl,hx1⟩)
 go_ret;exact⟨rfl,Qan (ext_alloc (ext_alloc (ext_refl _) _) _) hx1⟩
theorem Q1a (x y:Int):Qlt (x,y)=(!inB x 0 200 || !inB y 0 4):=rfl
theorem Qcp {l:List Stp} {x y:Int} (h:l[l.length-1]?=some (x,y)):Qa6 l=x:=by
 unfold Qa6;rw[List.getLast?_eq_getElem?,h];rfl
theorem Qwb {l:List Stp} {x y:Int} (h:l[l.length-1]?=some (x,y)):Qbq l=y:=by
 unfold Qbq;rw[List.getLast?_eq_getElem?,h];rfl
theorem Q48 {l:List Stp} {k:Nat} {s:Stp} (h:l[k]?=some s):(l.take (k+1)).any Qlt=((l.take k).any Qlt ||Qlt s):=by
 obtain⟨a1,b1⟩:=List.getElem?_eq_some_iff.1 h;rw[List.take_succ_eq_append_getElem a1,List.any_append,b1];simp
theorem Qnz {l:List Stp} {k:Nat} (h:(l.take k).any Qlt=true):l.any Qlt=true:=by
 rw[←List.take_append_drop k l,List.any_append,h];rfl
theorem Qob {l:List Stp} {c:Int} (h:10<l.length):Qaf (l,c)=2:=by unfold Qaf;rw[if_pos h]
theorem Qqb {l:List Stp} {c:Int} (h:l.length=0):Qaf (l,c)=1:=by
 have:l=[]:=by simpa using h
 subst this;rfl
theorem Ql0 {l:List Stp} {c:Int} (h1:¬10<l.length) (h2:l.length≠0) (h:l.any Qlt=true):Qaf (l,c)=3:=by
 unfold Qaf;rw[if_neg h1,if_neg (fun e=>h2 (by simp at e;simp[e])),if_pos h]
theorem Qqa {l:List Stp} {c:Int} (h1:¬10<l.length) (h2:l.length≠0) (h:l.any Qlt=false):Qaf (l,c)=if Qa6 l=0∨inB c 1 10000=false then 3 else 0:=by
 unfold Qaf;rw[if_neg h1,if_neg (fun e=>h2 (by simp at e;simp[e])),if_neg (by rw[h];simp)];unfold inB;simp only[Bool.and_eq_false_iff,decide_eq_false_iff_not];congr 1
 apply propext
 omega
theorem Qnn {F:Nat→Prop} {w:World} {cs:List Value} {m:Mk} (h:RMk F w cs m):
  Calls Tryz.prog 151 #[.agg cs.toArray] w fun e w'=>e= .returned (.bool (Qbf m))∧Ext w w':=by
 obtain⟨v,rfl,hl,_⟩:=h;obtain⟨l,c⟩:=m;simp only at hl ⊢;obtain⟨a1,n1,c1,rfl⟩:=hl.slice;obtain⟨rfl,_,_⟩:=hl.len;clear hl;by_cases h0:l.length=0
 ·have e1:Qbf (l,c)=(c==0):=by
   have:l=[]:=by simpa using h0
   subst this;unfold Qbf;simp;rfl
  have t1:((l.length:Int)==0)=true:=by rw[beq_iff_eq];omega
  rw[e1];clear e1 h0;go_enter Tryz.func151,Tryz.ntmps151;go_wp2
  go_ret;exact⟨rfl,ext_alloc (ext_refl _) _⟩
 ·have e1:Qbf (l,c)=false:=by
   unfold Qbf;cases l with
   |nil=>simp at h0
   |cons a r=>rfl
  have t1:((l.length:Int)==0)=false:=by rw[beq_eq_false_iff_ne];omega
  rw[e1];clear e1 h0;go_enter Tryz.func151,Tryz.ntmps151;go_wp2
  go_ret;exact⟨rfl,ext_alloc (ext_refl _) _⟩
theorem Qk7 {F:Nat→Prop} {w:World} {cs:List Value} {m:Mk} (h:RMk F w cs m):
  Calls Tryz.prog 190 #[.agg cs.toArray] w fun e w'=>e= .returned (.bool (Qbf m))∧Ext w w':=by
 obtain⟨v,rfl,hl,_⟩:=h;obtain⟨l,c⟩:=m;simp only at hl ⊢;obtain⟨a1,n1,c1,rfl⟩:=hl.slice;obtain⟨rfl,_,_⟩:=hl.len;clear hl;by_cases h0:l.length=0
 ·have e1:Qbf (l,c)=(c==0):=by
   have:l=[]:=by simpa using h0
   subst this;unfold Qbf;simp;rfl
  have t1:((l.length:Int)==0)=true:=by rw[beq_iff_eq];omega
  rw[e1];clear e1 h0;go_enter Tryz.func190,Tryz.ntmps190;go_wp2
  go_ret;exact⟨rfl,ext_alloc (ext_refl _) _⟩
 ·have e1:Qbf (l,c)=false:=by
   unfold Qbf;cases l with
   |nil=>simp at h0
   |cons a r=>rfl
  have t1:((l.length:Int)==0)=false:=by rw[beq_eq_false_iff_ne];omega
  rw[e1];clear e1 h0;go_enter Tryz.func190,Tryz.ntmps190;go_wp2
  go_ret;exact⟨rfl,ext_alloc (ext_refl _) _⟩
theorem Qcm {F:Nat→Prop} {w:World} {cs:List Value} {m:Mk} (h:RMk F w cs m):
  Calls Tryz.prog 147 #[.agg cs.toArray] w fun e w'=>e= .returned (.int .i64 (Qaf m))∧Ext w w':=by
 obtain⟨v,rfl,hl,_⟩:=h;obtain⟨l,c⟩:=m;simp only at hl ⊢;obtain⟨a1,n1,c1,rfl⟩:=hl.slice;obtain⟨rfl,k1,k1'⟩:=hl.len;unfold maxLen at k1';have q1:l.length≤9223372036854775807:=oM;clear k1 k1';have HL:=hH hl;clear hl;by_cases hm:10<l.length
 ·rw[Qob hm];go_enter Tryz.func147,Tryz.ntmps147;go_wp2
  go_ret;exact⟨rfl,ext_alloc (ext_refl _) _⟩
 by_cases h0:l.length=0
 ·rw[Qqb h0];have t1:((l.length:Int)==0)=true:=by rw[beq_iff_eq];omega
  clear h0;go_enter Tryz.func147,Tryz.ntmps147;go_wp2
  go_ret;exact⟨rfl,ext_alloc (ext_refl _) _⟩
 have t1:((l.length:Int)==0)=false:=by rw[beq_eq_false_iff_ne];omega
 have H0:=hH h0;have hp:0<l.length:=oM;clear h0;go_enter Tryz.func147,Tryz.ntmps147;go_wp2
 go_loopw [4] (fun i wr=>∃k:Nat,k≤l.length∧i= .int .i64 k∧Hid ((l.take k).any Qlt=false)∧Ext (w.alloc (.cells #[.slice a1 l.length c1,.int .i64 c] 103)) wr) (fun i _=>l.length-(intOf i).toNat)
 case atStart=>exact⟨0,oM,rfl,hH sI,ext_refl _⟩
 case round=>
  obtain⟨k,hk1,rfl,ho,hx⟩:=hrel;have hw:Ext w wr:=ext_trans (ext_alloc (ext_refl _) _) hx;have z1:wr.cell? ⟨w.heap.size,0,none⟩=some (.slice a1 l.length c1):=(hx.cells _ _ sO).trans gS;have z2:wr.cell? ⟨w.heap.size,1,none⟩=some (.int .i64 c):=(hx.cells _ _ sO).trans gS;have HX:=hH hx;have HW:=hH hw;clear hx hw;by_cases h1:k<l.length
  ·obtain⟨b1,o1,x1,y1,rfl,hb1,e1,_,_,ca,cb⟩:=Qfb (HL.o.ext Qap HW.o) h1;have HA:=hH (Q48 e1);clear e1 hb1;have HB:=hH (Q1a x1 y1);cases g1:inB x1 0 200 with
   |false=>
    have HC:=hH (Ql0 (c:=c) hm H0.out (Qnz (k:=k+1) (by rw[HA.o,ho.out,HB.o,g1];rfl)));go_wp2_with (go_at_call 66;refine(Qas _ _ _ _).mono ?_;rintro e w1 ⟨rfl,rfl⟩)
    go_ret;exact⟨ri HC.o.symm,HW.o⟩
   |true=>
    cases g2:inB y1 0 4 with
    |false=>
     have HC:=hH (Ql0 (c:=c) hm H0.out (Qnz (k:=k+1) (by rw[HA.o,ho.out,HB.o,g1,g2];rfl)));go_wp2_with (go_at_call 66;refine(Qas _ _ _ _).mono ?_;rintro e w1 ⟨rfl,rfl⟩)
     go_ret;exact⟨ri HC.o.symm,HW.o⟩
    |true=>
     have HD:=hH (show(l.take (k+1)).any Qlt=false by rw[HA.o,ho.out,HB.o,g1,g2];rfl);go_wp2_with (go_at_call 66;refine(Qas _ _ _ _).mono ?_;rintro e w1 ⟨rfl,rfl⟩)
     go_roundw
     case rel=>exact⟨k+1,oM,by go_num,HD,HX.o⟩
     case measure=>simp[intOf];omega
  ·have hk:k=l.length:=oM;subst hk;have ho':=ho.out;rw[List.take_of_length_le (Nat.le_refl _)] at ho';have HC:=hH (Qqa (c:=c) hm H0.out ho');clear ho ho';have hlast:l.length-1<l.length:=oM;obtain⟨b1,o1,x1,y1,rfl,hb1,e1,_,_,ca,cb⟩:=Qfb (HL.o.ext Qap HW.o) hlast;have HLD:=hH (Qcp e1);clear e1 hb1;by_cases hx1:x1=0
   ·have t2:(x1==0)=true:=by rw[beq_iff_eq];exact hx1
    have HX1:=hH hx1;clear hx1;go_wp2_with (go_at_call 66;refine(Qas _ _ _ _).mono ?_;rintro e w1 ⟨rfl,rfl⟩)
    go_ret;exact⟨ri (by rw[HC.o,if_pos (.inl (HLD.o.trans HX1.o))]),HW.o⟩
   ·have t2:(x1==0)=false:=by rw[beq_eq_false_iff_ne];exact hx1
    have HX1:=hH hx1;clear hx1;cases g1:inB c 1 10000 with
    |false=>
     go_wp2_with (go_at_call 66;refine(Qas _ _ _ _).mono ?_;rintro e w1 ⟨rfl,rfl⟩)
     go_ret;exact⟨ri (by rw[HC.o,if_pos (.inr g1)]),HW.o⟩
    |true=>
     go_wp2_with (go_at_call 66;refine(Qas _ _ _ _).mono ?_;rintro e w1 ⟨rfl,rfl⟩)
     go_ret;exact⟨ri (by rw[HC.o,if_neg (by rw[HLD.o,g1];simp[HX1.o])]),HW.o⟩
theorem Zbd {p:Prop} (h:p:=by
 go_enter Tryz.func224,Tryz.ntmps224;go_wp2_with (first|(go_at_call 181;refine(Qhe _ _ _ _).mono ?_;rintro e w1 ⟨rfl,rfl⟩)|(go_at_call 128;refine(Qfj _ _).mono ?_;rintro e w1 ⟨rfl,rfl⟩))
 go_ret;exact⟨rb sI,ext_alloc (ext_refl _) _⟩):p:=h
theorem Qn0 (x y:Int) (w:World):Calls Tryz.prog 224 #[.agg #[.int .i64 x,.int .i64 y]] w fun e w'=>e= .returned (.bool (Qlt (x,y)))∧Ext w w':=by
 rw[Q1a];cases g1:inB x 0 200 with
 |false=>
  exact Zbd
 |true=>
  exact Zbd
def Q0q (b:Bool) (w:World) (e:Ending) (w':World):Prop:=∃n:Int,decide (0≤n)=b∧e= .returned (.int .i64 n)∧Ext w w'
theorem Qdn {α:Type} {p:α→Bool} {l:List α} {k:Nat} {s:α} (h:l[k]?=some s):(l.take (k+1)).any p=((l.take k).any p ||p s):=by
 obtain⟨a1,b1⟩:=List.getElem?_eq_some_iff.1 h;rw[List.take_succ_eq_append_getElem a1,List.any_append,b1];simp
theorem Qbz {α:Type} {p:α→Bool} {l:List α} {k:Nat} (h:(l.take k).any p=true):l.any p=true:=by
 rw[←List.take_append_drop k l,List.any_append,h];rfl
theorem Za3 {p:Prop} (h:p:=by
 have hk:k=l.length:=oM;subst hk;have ho':=ho.out;rw[List.take_of_length_le (Nat.le_refl _)] at ho';have HO:=hH ho';clear ho ho';go_wp2
 go_ret;exact⟨-1,by rw[HO.o];rfl,rfl,HX.o⟩):p:=h
theorem Qv6 {F:Nat→Prop} {w:World} {v:Value} {l:List Stp} (h:RSl Qdt 2 F w v l):
  Calls Tryz.prog 244 #[v,.func (.func 224) #[] #[]] w (Q0q (l.any Qlt) w):=by
 obtain⟨a1,n1,c1,rfl⟩:=h.slice;obtain⟨rfl,k1,k1'⟩:=h.len;unfold maxLen at k1';have q1:l.length≤9223372036854775807:=oM;clear k1 k1';have HL:=hH h;clear h;go_enter Tryz.func244,Tryz.ntmps244;go_wp2
 go_loopw [8] (fun i wr=>∃k:Nat,k≤l.length∧i= .int .i64 k∧Hid ((l.take k).any Qlt=false)∧Ext w wr) (fun i _=>l.length-(intOf i).toNat)
 case atStart=>exact⟨0,oM,rfl,hH sI,ext_refl _⟩
 case round=>
  obtain⟨k,hk1,rfl,ho,hx⟩:=hrel;have HX:=hH hx;clear hx;by_cases h1:k<l.length
  ·obtain⟨b1,o1,x1,y1,rfl,hb1,e1,_,_,ca,cb⟩:=Qfb (HL.o.ext Qap HX.o) h1;have HA:=hH (Qdn (p:=Qlt) e1);clear e1 hb1;cases g1:Qlt (x1,y1) with
   |true=>
    have HC:=hH (Qbz (k:=k+1) (by rw[HA.o,ho.out,g1];rfl));go_wp2_with (go_at_call 224;refine(Qn0 _ _ _).mono ?_;rintro e w1 ⟨rfl,hx1⟩)
    go_ret;exact⟨k,by rw[HC.o];simp,rfl,Qan HX.o hx1⟩
   |false=>
    have HD:=hH (show(l.take (k+1)).any Qlt=false by rw[HA.o,ho.out,g1];rfl);go_wp2_with (go_at_call 224;refine(Qn0 _ _ _).mono ?_;rintro e w1 ⟨rfl,hx1⟩)
    go_roundw
    case rel=>exact⟨k+1,oM,by go_num,HD,Qan HX.o hx1⟩
    case measure=>simp[intOf];omega
  ·exact Za3
theorem Qna {F:Nat→Prop} {w:World} {v:Value} {l:List Stp} (h:RSl Qdt 2 F w v l):
  Calls Tryz.prog 223 #[v,.func (.func 224) #[] #[]] w fun e w'=>e= .returned (.bool (l.any Qlt))∧Ext w w':=by
 have H:=hH (Qv6 h);clear h;go_enter Tryz.func223,Tryz.ntmps223;go_wp2_with (go_at_call 244;refine H.out.mono ?_;rintro e w1 ⟨n,hn,rfl,hx1⟩;have HN:=hH hn;clear hn)
 go_ret;exact⟨rb HN.o,hx1⟩
theorem Qsd {p:Prop} (h:p:=by
 go_enter Tryz.func191,Tryz.ntmps191;go_wp2_with (first
  |(go_at_call 223;refine(HCO.o _ (ext_alloc (ext_refl _) _)).mono ?_;rintro e w1 ⟨rfl,hx1⟩;have cd:=HRA.o w1 (Qan (ext_alloc (ext_refl _) _) hx1);obtain⟨hz1,hz2⟩:=cC2 hx1 w.heap.size (.slice (some ⟨b1,o1,none⟩) l.length c1) (.int .i64 c);have HX1:=hH hx1;clear hx1)
  |(go_at_call 181;refine(Qhe _ _ _ _).mono ?_;rintro e w2 ⟨rfl,rfl⟩))
 first
 |(
   clear zqa;go_ret;exact⟨ri (by rw[HC.o,if_pos (.inr g1)]),Qan (ext_alloc (ext_refl _) _) HX1.o⟩
   done)
 |(
   clear zqb;go_ret;exact⟨ri (by rw[HC.o,if_pos (.inl (HLD.o.trans HZ.o))]),Qan (ext_alloc (ext_refl _) _) HX1.o⟩
   done)
 |(
   clear zqc;go_ret;exact⟨ri (by rw[HC.o,if_neg (by rw[HLD.o,g1];simp[HZ.o])]),Qan (ext_alloc (ext_refl _) _) HX1.o⟩
   done)):p:=h
theorem Qe4 {F:Nat→Prop} {w:World} {cs:List Value} {m:Mk} (h:RMk F w cs m):
  Calls Tryz.prog 191 #[.agg cs.toArray] w fun e w'=>e= .returned (.int .i64 (Qaf m))∧Ext w w':=by
 obtain⟨v,rfl,hl,_⟩:=h;obtain⟨l,c⟩:=m;simp only at hl ⊢;have HCO:=hH (fun(W:World) (hx:Ext w W)=>Qna (hl.ext Qap hx));obtain⟨a1,n1,c1,rfl⟩:=hl.slice;obtain⟨rfl,k1,k1'⟩:=hl.len;unfold maxLen at k1';have q1:l.length≤9223372036854775807:=oM;clear k1 k1';have HL:=hH hl;clear hl;by_cases hm:10<l.length
 ·rw[Qob hm];go_enter Tryz.func191,Tryz.ntmps191;go_wp2
  go_ret;exact⟨rfl,ext_alloc (ext_refl _) _⟩
 by_cases h0:l.length=0
 ·rw[Qqb h0];have t1:((l.length:Int)==0)=true:=by rw[beq_iff_eq];omega
  clear h0;go_enter Tryz.func191,Tryz.ntmps191;go_wp2
  go_ret;exact⟨rfl,ext_alloc (ext_refl _) _⟩
 have t1:((l.length:Int)==0)=false:=by rw[beq_eq_false_iff_ne];omega
 have H0:=hH h0;have hp:0<l.length:=oM;clear h0;cases g0:l.any Qlt with
 |true=>
  have HC:=hH (Ql0 (c:=c) hm H0.out g0);rw[g0] at HCO;go_enter Tryz.func191,Tryz.ntmps191;go_wp2_with (go_at_call 223;refine(HCO.o _ (ext_alloc (ext_refl _) _)).mono ?_;rintro e w1 ⟨rfl,hx1⟩)
  go_ret;exact⟨ri HC.o.symm,Qan (ext_alloc (ext_refl _) _) hx1⟩
 |false=>
  have HC:=hH (Qqa (c:=c) hm H0.out g0);rw[g0] at HCO;have hlast:l.length-1<l.length:=oM;obtain⟨b1,o1,x1,y1,rfl,hb1,e1,_,_,ca,cb⟩:=Qfb HL.o hlast;have HLD:=hH (Qcp e1);clear e1;have HRA:=hH (fun(w1:World) (hx:Ext w w1)=>(hx.cells b1 (o1+(l.length-1) * 2) hb1).trans ca);clear ca cb;by_cases hx1:x1=0
  ·have t2:(x1==0)=true:=by rw[beq_iff_eq];exact hx1
   have HZ:=hH hx1;clear hx1;have zqb:=trivial;exact Qsd
  ·have t2:(x1==0)=false:=by rw[beq_eq_false_iff_ne];exact hx1
   have HZ:=hH hx1;clear hx1;cases g1:inB c 1 10000 with
   |false=>
    have zqa:=trivial;exact Qsd
   |true=>
    have zqc:=trivial;exact Qsd
end Go.Proofs.YtgnccjojfebkeaaGreat
namespace Cp
open Go Go.RowKit
structure Later (w:World) where
 at_:World
 ext:Ext w at_
instance later_some {w:World}:Nonempty (Later w):=⟨⟨w,ext_refl w⟩⟩
theorem Later.cells {w:World} (u:Later w):∀b o,b<w.heap.size→u.at_.cell? ⟨b,o,none⟩=w.cell? ⟨b,o,none⟩:=u.ext.cells
theorem Qaa {P:Program} {id:Nat} {Q:Exit→Act→World→Prop} {a:Act} {w:World} {l:List Oper} (hm:P.follows .mixedOrders=true) (hB:Region.lexB .any l.toArray=true)
  (h:(∀(u:Later w) b o,b<w.heap.size→u.at_.cell? ⟨b,o,none⟩=w.cell? ⟨b,o,none⟩)→
   wpQuiet P l.toArray (fun W=>∃u:Later w,W=u.at_) (fun a'=>∀w',(∃u:Later w,w'=u.at_)→Q .normal a' w') l a):(Code.region id l.toArray true).wp P Q a w:=
 wp_region_quiet (C:=fun W=>∃u:Later w,W=u.at_) hm hB ⟨⟨w.drew,ext_drew (ext_refl _)⟩,rfl⟩ (h fun u=>u.cells)
theorem Qad {P:Program} {c:Code} {Q:Exit→Act→World→Prop} {a:Act} {w:World} (h:∀W,W=w→Code.wp P c Q a W):Code.wp P c Q a w:=h w rfl
theorem Qah {P:Program} {f:FuncId} {args:Array Value} {w:World} {u:Later w} {v:Value} (h:Calls P f args u.at_ fun e w'=>e= .returned v∧Ext u.at_ w'):
  Calls P f args u.at_ fun e w''=>e= .returned v∧∃u':Later w,w''=u'.at_:=
 h.mono fun _ w' ⟨he,hx⟩=>⟨he,⟨w',ext_trans u.ext hx⟩,rfl⟩
theorem Qqs {P:Program} {f:FuncId} {args:Array Value} {w:World} {u:Later w} {v:Value} (h:Calls P f args u.at_ fun e w'=>e= .returned v∧u.at_=w'):
  Calls P f args u.at_ fun e w''=>e= .returned v∧∃u':Later w,w''=u'.at_:=
 h.mono fun _ _ ⟨he,hx⟩=>⟨he,u,hx.symm⟩
end Cp
namespace Go.Proofs.YtgnccjojfebkeaaGreat
open Go Go.RowKit Go.BigFrame Cp
theorem Qam {F:Nat→Prop} {w:World} {v:Value} {l:List Stp} {c:Int} (h:RSl Qdt 2 F w v l) (i:I64 c):RMk F w [v,.int .i64 c] (l,c):=⟨v,rfl,h,i⟩
theorem Qm2 {F:Nat→Prop} {w:World} {v:Value} {l:List Stp} {c:Int} {s:UInt8} (h:RSl Qdt 2 F w v l) (i:I64 c):RAt F w [v,.int .i64 c,.int .u8 s.toNat] ((l,c),s):=⟨v,rfl,h,i⟩
theorem Qcd {F:Nat→Prop} {w:World} {a:Option Addr} {n cap:Nat} {q:List At} (h:RSl RAt 3 F w (.slice a n cap) q) {i:Nat} (hi:i<n):
  ∃b o p c s ap cp,a=some ⟨b,o,none⟩∧b<w.heap.size∧q[i]?=some ((p,c),s)∧I64 c∧RSl Qdt 2 F w (.slice ap p.length cp) p∧
   w.cell? ⟨b,o+i * 3,none⟩=some (.slice ap p.length cp)∧w.cell? ⟨b,o+i * 3+1,none⟩=some (.int .i64 c)∧w.cell? ⟨b,o+i * 3+2,none⟩=some (.int .u8 (s:UInt8).toNat):=by
 obtain⟨b,o,x,cs,e1,e2,e3,_,e4,v,rfl,h1,h2⟩:=h.at_ hi;obtain⟨ap,np,cp,rfl⟩:=h1.slice;obtain⟨rfl,_,_⟩:=h1.len;exact⟨b,o,x.1.1,x.1.2,x.2,ap,cp,e1,e2,e3,h2,h1,by simpa using e4 0 _ rfl,by simpa [Nat.add_assoc] using e4 1 _ rfl,by simpa [Nat.add_assoc] using e4 2 _ rfl⟩
def Qmd (l:List At) (k:Nat):Option Mk:=if k=0 then none else(l[k-1]?).map (·.1)
theorem Qjw {l:List At} (h:300<l.length):Qb0 l=2:=by unfold Qb0;rw[if_pos h]
theorem Qlz {l:List At} (h:¬300<l.length):Qb0 l=Qch (Qmd l 0) (l.drop 0):=by unfold Qb0;rw[if_neg h];rfl
theorem Qn7 {l:List At} {k:Nat} {p:Option Mk} (h:l.length≤k):Qch p (l.drop k)=0:=by rw[List.drop_eq_nil_of_le h];unfold Qch;rfl
theorem Qci {α:Type} {l:List α} {k:Nat} {a:α} (h:l[k]?=some a):l.drop k=a::l.drop (k+1):=by
 obtain⟨h1,h2⟩:=List.getElem?_eq_some_iff.1 h;rw[List.drop_eq_getElem_cons h1,h2]
theorem Qq3 {l:List At} {k:Nat} {a:At} (h:l[k]?=some a):Qmd l (k+1)=some a.1:=by
 unfold Qmd;rw[if_neg oM,Nat.add_sub_cancel,h];rfl
theorem Qmm {l:List At} {k:Nat} {a:At} {p:Option Mk} (h:l[k]?=some a) (h1:¬Qaf a.1=0):Qch p (l.drop k)=Qaf a.1:=by
 rw[Qci h];unfold Qch;rw[if_pos h1]
theorem Qmo {l:List At} {k:Nat} {a:At} {p:Option Mk} (h:l[k]?=some a) (h1:Qaf a.1=0) (h2:Qdm a.2=false):Qch p (l.drop k)=3:=by
 rw[Qci h];unfold Qch;rw[if_neg (by rw[h1];simp),if_pos h2]
theorem Qkc {l:List At} {k:Nat} {a:At} (h:l[k]?=some a) (h1:Qaf a.1=0) (h2:Qdm a.2=true) (hk:k=0):Qch (Qmd l k) (l.drop k)=Qch (Qmd l (k+1)) (l.drop (k+1)):=by
 subst hk;rw[Qq3 h,Qci h];have hp:Qmd l 0=none:=rfl;rw[hp];conv=>lhs;unfold Qch
 rw[if_neg (by rw[h1];simp),if_neg (by rw[h2];simp)];simp
theorem Quh {l:List At} {k:Nat} {b:At} (hb:l[k-1]?=some b) (hk:0<k):Qmd l k=some b.1:=by
 unfold Qmd;rw[if_neg oM,hb];rfl
theorem Qn6 {l:List At} {k:Nat} {a b:At} (h:l[k]?=some a) (hb:l[k-1]?=some b) (hk:0<k) (h1:Qaf a.1=0) (h2:Qdm a.2=true) (h3:0≤Qau b.1 a.1):Qch (Qmd l k) (l.drop k)=4:=by
 rw[Quh hb hk,Qci h];unfold Qch;rw[if_neg (by rw[h1];simp),if_neg (by rw[h2];simp),if_pos (by simpa using h3)]
theorem Qmn {l:List At} {k:Nat} {a b:At} (h:l[k]?=some a) (hb:l[k-1]?=some b) (hk:0<k) (h1:Qaf a.1=0) (h2:Qdm a.2=true) (h3:¬0≤Qau b.1 a.1):Qch (Qmd l k) (l.drop k)=Qch (Qmd l (k+1)) (l.drop (k+1)):=by
 rw[Qq3 h,Quh hb hk,Qci h];conv=>lhs;unfold Qch
 rw[if_neg (by rw[h1];simp),if_neg (by rw[h2];simp),if_neg (by simpa using h3)]
theorem Za6 {p:Prop} (h:p:=by
 clear eW2;refine Qaa fol kR (fun hlater=> ?_);repeat(go_big_quiet_step ((first
   |(go_at_call 148;(with_reducible exact Qah (HOR.o _ (ext_trans hw2 (Later.ext _))))))))
 refine wpQuiet_nil ?_;rintro w3 ⟨⟨w3x,hx3⟩,rfl⟩;clear hlater;go_wp2_with fail
 go_ret;exact⟨ri HF.o.symm,ext_trans HX.o (ext_trans hw2 hx3)⟩):p:=h
theorem Zar {p:Prop} (h:p:=by
 rintro w3 ⟨⟨w3x,hx3⟩,rfl⟩;clear hlater;go_wp2_with fail
 go_roundw
 case rel=>exact⟨k+1,oM,by go_num,HF,ext_trans HX.o (ext_trans hw2 hx3)⟩
 case measure=>simp[intOf];omega):p:=h
theorem Qpt {F:Nat→Prop} {w:World} {v:Value} {l:List At} (hl:RSl RAt 3 F w v l):
  Calls Tryz.prog 146 #[v] w fun e w'=>e= .returned (.int .i64 (Qb0 l))∧Ext w w':=by
 obtain⟨a0,n0,c0,rfl⟩:=hl.slice;obtain⟨rfl,hn1,hn2⟩:=hl.len;unfold maxLen at hn2;have q1:l.length≤9223372036854775807:=oM;clear hn1 hn2;by_cases hm:300<l.length
 ·rw[Qjw hm];go_enter Tryz.func146,Tryz.ntmps146;go_wp2
  go_ret;exact⟨rfl,ext_refl _⟩
 have HM:=hH (Qlz hm);have HL:=hH hl;clear hl;go_enter Tryz.func146,Tryz.ntmps146;go_wp2
 go_loopw [3] (fun i wr=>∃k:Nat,k≤l.length∧i= .int .i64 k∧Hid (Qb0 l=Qch (Qmd l k) (l.drop k))∧Ext w wr) (fun i _=>l.length-(intOf i).toNat)
 case atStart=>exact⟨0,Nat.zero_le _,rfl,HM,ext_refl _⟩
 case round=>
  obtain⟨k,hk,rfl,HI,hx⟩:=hrel;have HX:=hH hx;clear hx;by_cases hlt:k<l.length
  ·obtain⟨b,o,p,c,s,ap,cp,rfl,hb,ek,ick,hpp,y0,y1,y2⟩:=Qcd (HL.o.ext gAt HX.o) hlt;have HPX:=hH (fun(W:World) (hx:Ext wr W)=>(Qam (hpp.ext Qap hx) ick));have HC:=hH (fun(W:World) (hx:Ext wr W)=>Qcm (HPX.o W hx));have HEK:=hH ek;clear hpp ick ek;by_cases g1:Qaf (p,c)=0
   ·have HG1:=hH g1;rw[g1] at HC;clear g1;cases g2:Qdm s with
    |false=>
     have HF:=hH (HI.o.trans (Qmo HEK.o HG1.o g2));go_wp2_with (first
      |(go_at_call 147;go_must ((with_reducible refine(HC.o _ Qac).mono ?_);rintro e w1 ⟨rfl,hx1⟩;have x0:=cL hx1 b (o+k * 3) (.slice ap p.length cp);have x1:=cL hx1 b (o+k * 3+1) (.int .i64 c);have x2:=cL hx1 b (o+k * 3+2) (.int .u8 s.toNat);have HX1:=hH hx1;clear hx1))
      |(go_at_call 177;((with_reducible refine(Qgy _ _).mono ?_);rintro e w' ⟨rfl,rfl⟩)))
     go_ret;exact⟨ri HF.o.symm,ext_trans HX.o HX1.o⟩
    |true=>
     go_wp2_with (first
      |(go_at_call 147;go_must ((with_reducible refine(HC.o _ Qac).mono ?_);rintro e w1 ⟨rfl,hx1⟩;have x0:=cL hx1 b (o+k * 3) (.slice ap p.length cp);have x1:=cL hx1 b (o+k * 3+1) (.int .i64 c);have x2:=cL hx1 b (o+k * 3+2) (.int .u8 s.toNat);have HX1:=hH hx1;clear hx1))
      |(go_at_call 177;((with_reducible refine(Qgy _ _).mono ?_);rintro e w' ⟨rfl,rfl⟩)))
     have hsz1:=HX1.o.size
     (try simp at hsz1)
     have hbw:b<w1.heap.size:=oM;by_cases hk0:k=0
     ·have t8:decide (0<(k:Int))=false:=decide_eq_false oM;have t8b:decide (0<k)=false:=decide_eq_false oM;have HF:=hH (HI.o.trans (Qkc HEK.o HG1.o g2 hk0));clear hk0;refine Qad (fun W2 eW2=> ?_);have e0:=rL eW2 ⟨b,o+k * 3,none⟩ (.slice ap p.length cp);have e1:=rL eW2 ⟨b,o+k * 3+1,none⟩ (.int .i64 c);have e2:=rL eW2 ⟨b,o+k * 3+2,none⟩ (.int .u8 s.toNat);have zW2_0:=zE eW2 b;have hw2:Ext wr W2:=by rw[eW2];exact ext_trans (ext_refl _) (ext_trans HX1.o Qac)
      clear eW2;refine Qaa fol kR (fun hlater=> ?_);repeat(go_big_quiet_step ((fail)))
      refine wpQuiet_nil ?_;exact Zar
     ·have hk1:0<k:=oM;have t8:decide (0<(k:Int))=true:=decide_eq_true oM;have t8b:decide (0<k)=true:=decide_eq_true oM;clear hk0;obtain⟨b',o',p1,d1,s1,ap1,cp1,ea,_,ek1,ic1,hp1,u0,u1,u2⟩:=Qcd (HL.o.ext gAt HX.o) (i:=k-1) oM;obtain⟨rfl,rfl⟩:b=b'∧o=o':=by injection ea with ea;injection ea with ea1 ea2;exact⟨ea1,ea2⟩
      clear ea;have HP1:=hH (fun(W:World) (hx:Ext wr W)=>(Qam (hp1.ext Qap hx) ic1));have HOR:=hH (fun(W:World) (hx:Ext wr W)=>Qes (HP1.o W hx) (HPX.o W hx));have HE1:=hH ek1;clear hp1 ic1 ek1;have x6:=cL HX1.o b (o+(k-1) * 3) (.slice ap1 p1.length cp1);have x7:=cL HX1.o b (o+(k-1) * 3+1) (.int .i64 d1);have x8:=cL HX1.o b (o+(k-1) * 3+2) (.int .u8 s1.toNat);by_cases g4:0≤Qau (p1,d1) (p,c)
      ·have HF:=hH (HI.o.trans (Qn6 HEK.o HE1.o hk1 HG1.o g2 g4));have t9:decide (0≤Qau (p1,d1) (p,c))=true:=decide_eq_true g4;generalize Qau (p1,d1) (p,c)=od at *;clear g4 HE1;refine Qad (fun W2 eW2=> ?_);have e0:=rL eW2 ⟨b,o+k * 3,none⟩ (.slice ap p.length cp);have e1:=rL eW2 ⟨b,o+k * 3+1,none⟩ (.int .i64 c);have e2:=rL eW2 ⟨b,o+k * 3+2,none⟩ (.int .u8 s.toNat);have e6:=rL eW2 ⟨b,o+(k-1) * 3,none⟩ (.slice ap1 p1.length cp1);have e7:=rL eW2 ⟨b,o+(k-1) * 3+1,none⟩ (.int .i64 d1);have e8:=rL eW2 ⟨b,o+(k-1) * 3+2,none⟩ (.int .u8 s1.toNat);have zW2_0:=zE eW2 b;have hw2:Ext wr W2:=by rw[eW2];exact ext_trans (ext_refl _) (ext_trans HX1.o Qac)
       exact Za6
      ·have HF:=hH (HI.o.trans (Qmn HEK.o HE1.o hk1 HG1.o g2 g4));have t9:decide (0≤Qau (p1,d1) (p,c))=false:=decide_eq_false g4;generalize Qau (p1,d1) (p,c)=od at *;clear g4 HE1;refine Qad (fun W2 eW2=> ?_);have e0:=rL eW2 ⟨b,o+k * 3,none⟩ (.slice ap p.length cp);have e1:=rL eW2 ⟨b,o+k * 3+1,none⟩ (.int .i64 c);have e2:=rL eW2 ⟨b,o+k * 3+2,none⟩ (.int .u8 s.toNat);have e6:=rL eW2 ⟨b,o+(k-1) * 3,none⟩ (.slice ap1 p1.length cp1);have e7:=rL eW2 ⟨b,o+(k-1) * 3+1,none⟩ (.int .i64 d1);have e8:=rL eW2 ⟨b,o+(k-1) * 3+2,none⟩ (.int .u8 s1.toNat);have zW2_0:=zE eW2 b;have hw2:Ext wr W2:=by rw[eW2];exact ext_trans (ext_refl _) (ext_trans HX1.o Qac)
       clear eW2;refine Qaa fol kR (fun hlater=> ?_);repeat(go_big_quiet_step ((first
         |(go_at_call 148;(with_reducible exact Qah (HOR.o _ (ext_trans hw2 (Later.ext _))))))))
       refine wpQuiet_nil ?_;exact Zar
   ·have HF:=hH (HI.o.trans (Qmm HEK.o g1));have t1:(Qaf (p,c) !=0)=true:=by simpa using g1
    generalize Qaf (p,c)=m at *;clear g1;go_wp2_with (first
      |(go_at_call 147;go_must ((with_reducible refine(HC.o _ Qac).mono ?_);rintro e w1 ⟨rfl,hx1⟩;have x0:=cL hx1 b (o+k * 3) (.slice ap p.length cp);have x1:=cL hx1 b (o+k * 3+1) (.int .i64 c);have x2:=cL hx1 b (o+k * 3+2) (.int .u8 s.toNat);have HX1:=hH hx1;clear hx1))
      |(go_at_call 177;((with_reducible refine(Qgy _ _).mono ?_);rintro e w' ⟨rfl,rfl⟩)))
    go_ret;exact⟨ri HF.o.symm,ext_trans HX.o HX1.o⟩
  ·go_wp2
   go_ret;exact⟨ri (by rw[HI.o,Qn7 oM]),HX.o⟩
theorem Qzp {F G:Nat→Prop} {w:World} {cs ds:List Value} {a b:At} (ha:RAt F w cs a) (hb:RAt G w ds b):
  Calls Tryz.prog 239 #[.agg cs.toArray,.agg ds.toArray] w fun e w'=>e= .returned (.int .i64 (Qau a.1 b.1))∧Ext w w':=by
 obtain⟨v,rfl,hl,ic⟩:=ha;obtain⟨u,rfl,hm,id⟩:=hb;obtain⟨⟨l,c⟩,s⟩:=a;obtain⟨⟨m,d⟩,t⟩:=b;simp only at hl hm ic id ⊢;obtain⟨a1,n1,c1,rfl⟩:=hl.slice;obtain⟨a2,n2,c2,rfl⟩:=hm.slice;have HO:=hH (fun(W:World) (hx:Ext w W)=>Qf2 (Qam (hl.ext Qap hx) ic) (Qam (hm.ext Qap hx) id));clear hl hm ic id;go_enter Tryz.func239,Tryz.ntmps239;go_wp2_with (go_at_call 220;go_must ((with_reducible refine(HO.o _ Qac).mono ?_);rintro e w1 ⟨rfl,hx1⟩))
 go_ret;exact⟨rfl,Qac⟩
theorem Qn8 {F:Nat→Prop} {w:World} {v:Value} {l:List At} (hl:RSl RAt 3 F w v l):
  Calls Tryz.prog 219 #[v] w fun e w'=>e= .returned (.int .i64 (Qb0 l))∧Ext w w':=by
 obtain⟨a0,n0,c0,rfl⟩:=hl.slice;obtain⟨rfl,hn1,hn2⟩:=hl.len;unfold maxLen at hn2;have q1:l.length≤9223372036854775807:=oM;clear hn1 hn2;by_cases hm:300<l.length
 ·rw[Qjw hm];go_enter Tryz.func219,Tryz.ntmps219;go_wp2
  go_ret;exact⟨rfl,ext_refl _⟩
 have HM:=hH (Qlz hm);have HL:=hH hl;clear hl;go_enter Tryz.func219,Tryz.ntmps219;go_wp2
 go_loopw [11] (fun i wr=>∃k:Nat,k≤l.length∧i= .int .i64 k∧Hid (Qb0 l=Qch (Qmd l k) (l.drop k))∧Ext w wr) (fun i _=>l.length-(intOf i).toNat)
 case atStart=>exact⟨0,Nat.zero_le _,rfl,HM,ext_refl _⟩
 case round=>
  obtain⟨k,hk,rfl,HI,hx⟩:=hrel;have HX:=hH hx;clear hx;by_cases hlt:k<l.length
  ·obtain⟨b,o,p,c,s,ap,cp,rfl,hb,ek,ick,hpp,y0,y1,y2⟩:=Qcd (HL.o.ext gAt HX.o) hlt;have HPX:=hH (fun(W:World) (hx:Ext wr W)=>(Qam (hpp.ext Qap hx) ick));have HC:=hH (fun(W:World) (hx:Ext wr W)=>Qe4 (HPX.o W hx));have HEK:=hH ek;have HPA:=hH (fun(W:World) (hx:Ext wr W)=>(Qm2 (s:=s) (hpp.ext Qap hx) ick));have hn1:¬b=wr.heap.size:=oM;have hn2:¬wr.heap.size=b:=oM;clear hpp ick ek;by_cases g1:Qaf (p,c)=0
   ·have HG1:=hH g1;rw[g1] at HC;clear g1;cases g2:Qdm s with
    |false=>
     have HF:=hH (HI.o.trans (Qmo HEK.o HG1.o g2));go_wp2_with (first
      |(go_at_call 191;go_must ((with_reducible refine(HC.o _ Qac).mono ?_);rintro e w1 ⟨rfl,hx1⟩;have x0:=cL hx1 b (o+k * 3) (.slice ap p.length cp);have x1:=cL hx1 b (o+k * 3+1) (.int .i64 c);have x2:=cL hx1 b (o+k * 3+2) (.int .u8 s.toNat);obtain⟨x3,x4,x5⟩:=cC3 hx1 wr.heap.size (.slice ap p.length cp) (.int .i64 c) (.int .u8 s.toNat);have HX1:=hH hx1;clear hx1))
      |(go_at_call 213;((with_reducible refine(Qlm _ _).mono ?_);rintro e w' ⟨rfl,rfl⟩)))
     go_ret;exact⟨ri HF.o.symm,ext_trans HX.o (ext_trans (ext_alloc (ext_refl _) _) HX1.o)⟩
    |true=>
     go_wp2_with (first
      |(go_at_call 191;go_must ((with_reducible refine(HC.o _ Qac).mono ?_);rintro e w1 ⟨rfl,hx1⟩;have x0:=cL hx1 b (o+k * 3) (.slice ap p.length cp);have x1:=cL hx1 b (o+k * 3+1) (.int .i64 c);have x2:=cL hx1 b (o+k * 3+2) (.int .u8 s.toNat);obtain⟨x3,x4,x5⟩:=cC3 hx1 wr.heap.size (.slice ap p.length cp) (.int .i64 c) (.int .u8 s.toNat);have HX1:=hH hx1;clear hx1))
      |(go_at_call 213;((with_reducible refine(Qlm _ _).mono ?_);rintro e w' ⟨rfl,rfl⟩)))
     have hsz1:=HX1.o.size
     (try simp at hsz1)
     have hbw:b<w1.heap.size:=oM;have hbx:wr.heap.size<w1.heap.size:=oM;by_cases hk0:k=0
     ·have t8:decide (0<(k:Int))=false:=decide_eq_false oM;have t8b:decide (0<k)=false:=decide_eq_false oM;have HF:=hH (HI.o.trans (Qkc HEK.o HG1.o g2 hk0));clear hk0;refine Qad (fun W2 eW2=> ?_);have e0:=rL eW2 ⟨b,o+k * 3,none⟩ (.slice ap p.length cp);have e1:=rL eW2 ⟨b,o+k * 3+1,none⟩ (.int .i64 c);have e2:=rL eW2 ⟨b,o+k * 3+2,none⟩ (.int .u8 s.toNat);obtain⟨e3,e4,e5⟩:=rR3 eW2 wr.heap.size (.slice ap p.length cp) (.int .i64 c) (.int .u8 s.toNat);have zW2_0:=zE eW2 b;have zW2_1:=zE eW2 wr.heap.size;have hw2:Ext wr W2:=by rw[eW2];exact ext_trans (ext_alloc (ext_refl _) _) (ext_trans HX1.o Qac)
      clear eW2;refine Qaa fol kR (fun hlater=> ?_);repeat(go_big_quiet_step ((fail)))
      refine wpQuiet_nil ?_;exact Zar
     ·have hk1:0<k:=oM;have t8:decide (0<(k:Int))=true:=decide_eq_true oM;have t8b:decide (0<k)=true:=decide_eq_true oM;clear hk0;obtain⟨b',o',p1,d1,s1,ap1,cp1,ea,_,ek1,ic1,hp1,u0,u1,u2⟩:=Qcd (HL.o.ext gAt HX.o) (i:=k-1) oM;obtain⟨rfl,rfl⟩:b=b'∧o=o':=by injection ea with ea;injection ea with ea1 ea2;exact⟨ea1,ea2⟩
      clear ea;have HP1:=hH (fun(W:World) (hx:Ext wr W)=>(Qm2 (s:=s1) (hp1.ext Qap hx) ic1));have HOR:=hH (fun(W:World) (hx:Ext wr W)=>Qzp (HP1.o W hx) (HPA.o W hx));have HE1:=hH ek1;clear hp1 ic1 ek1;have x6:=cL HX1.o b (o+(k-1) * 3) (.slice ap1 p1.length cp1);have x7:=cL HX1.o b (o+(k-1) * 3+1) (.int .i64 d1);have x8:=cL HX1.o b (o+(k-1) * 3+2) (.int .u8 s1.toNat);by_cases g4:0≤Qau (p1,d1) (p,c)
      ·have HF:=hH (HI.o.trans (Qn6 HEK.o HE1.o hk1 HG1.o g2 g4));have t9:decide (0≤Qau (p1,d1) (p,c))=true:=decide_eq_true g4;generalize Qau (p1,d1) (p,c)=od at *;clear g4 HE1;refine Qad (fun W2 eW2=> ?_);have e0:=rL eW2 ⟨b,o+k * 3,none⟩ (.slice ap p.length cp);have e1:=rL eW2 ⟨b,o+k * 3+1,none⟩ (.int .i64 c);have e2:=rL eW2 ⟨b,o+k * 3+2,none⟩ (.int .u8 s.toNat);obtain⟨e3,e4,e5⟩:=rR3 eW2 wr.heap.size (.slice ap p.length cp) (.int .i64 c) (.int .u8 s.toNat);have e6:=rL eW2 ⟨b,o+(k-1) * 3,none⟩ (.slice ap1 p1.length cp1);have e7:=rL eW2 ⟨b,o+(k-1) * 3+1,none⟩ (.int .i64 d1);have e8:=rL eW2 ⟨b,o+(k-1) * 3+2,none⟩ (.int .u8 s1.toNat);have zW2_0:=zE eW2 b;have zW2_1:=zE eW2 wr.heap.size;have hw2:Ext wr W2:=by rw[eW2];exact ext_trans (ext_alloc (ext_refl _) _) (ext_trans HX1.o Qac)
       clear eW2;refine Qaa fol kR (fun hlater=> ?_);repeat(go_big_quiet_step ((first
         |(go_at_call 239;(with_reducible exact Qah (HOR.o _ (ext_trans hw2 (Later.ext _))))))))
       refine wpQuiet_nil ?_;rintro w3 ⟨⟨w3x,hx3⟩,rfl⟩;clear hlater;go_wp2_with fail
       go_ret;exact⟨ri HF.o.symm,ext_trans HX.o (ext_trans hw2 hx3)⟩
      ·have HF:=hH (HI.o.trans (Qmn HEK.o HE1.o hk1 HG1.o g2 g4));have t9:decide (0≤Qau (p1,d1) (p,c))=false:=decide_eq_false g4;generalize Qau (p1,d1) (p,c)=od at *;clear g4 HE1;refine Qad (fun W2 eW2=> ?_);have e0:=rL eW2 ⟨b,o+k * 3,none⟩ (.slice ap p.length cp);have e1:=rL eW2 ⟨b,o+k * 3+1,none⟩ (.int .i64 c);have e2:=rL eW2 ⟨b,o+k * 3+2,none⟩ (.int .u8 s.toNat);obtain⟨e3,e4,e5⟩:=rR3 eW2 wr.heap.size (.slice ap p.length cp) (.int .i64 c) (.int .u8 s.toNat);have e6:=rL eW2 ⟨b,o+(k-1) * 3,none⟩ (.slice ap1 p1.length cp1);have e7:=rL eW2 ⟨b,o+(k-1) * 3+1,none⟩ (.int .i64 d1);have e8:=rL eW2 ⟨b,o+(k-1) * 3+2,none⟩ (.int .u8 s1.toNat);have zW2_0:=zE eW2 b;have zW2_1:=zE eW2 wr.heap.size;have hw2:Ext wr W2:=by rw[eW2];exact ext_trans (ext_alloc (ext_refl _) _) (ext_trans HX1.o Qac)
       clear eW2;refine Qaa fol kR (fun hlater=> ?_);repeat(go_big_quiet_step ((first
         |(go_at_call 239;(with_reducible exact Qah (HOR.o _ (ext_trans hw2 (Later.ext _))))))))
       refine wpQuiet_nil ?_;exact Zar
   ·have HF:=hH (HI.o.trans (Qmm HEK.o g1));have t1:(Qaf (p,c) !=0)=true:=by simpa using g1
    generalize Qaf (p,c)=m at *;clear g1;go_wp2_with (first
      |(go_at_call 191;go_must ((with_reducible refine(HC.o _ Qac).mono ?_);rintro e w1 ⟨rfl,hx1⟩;have x0:=cL hx1 b (o+k * 3) (.slice ap p.length cp);have x1:=cL hx1 b (o+k * 3+1) (.int .i64 c);have x2:=cL hx1 b (o+k * 3+2) (.int .u8 s.toNat);obtain⟨x3,x4,x5⟩:=cC3 hx1 wr.heap.size (.slice ap p.length cp) (.int .i64 c) (.int .u8 s.toNat);have HX1:=hH hx1;clear hx1))
      |(go_at_call 213;((with_reducible refine(Qlm _ _).mono ?_);rintro e w' ⟨rfl,rfl⟩)))
    go_ret;exact⟨ri HF.o.symm,ext_trans HX.o (ext_trans (ext_alloc (ext_refl _) _) HX1.o)⟩
  ·go_wp2
   go_ret;exact⟨ri (by rw[HI.o,Qn7 oM]),HX.o⟩
theorem Qdx:∀{l:List At},Qa9 l→∀(j:Nat) (a b:At) (i:Nat),i<j→l[i]?=some a→l[j]?=some b→Qau a.1 b.1= -1
 | [],_,j,a,b,i,_,h,_=>by simp at h
 | [x],_,j,a,b,i,hij,_,h=>by
  cases j with
  |zero=>omega
  |succ j=>simp at h
 |x::y::r,hs,j,a,b,i,hij,h1,h2=>by
  obtain⟨hxy,hr⟩:=hs;cases j with
  |zero=>omega
  |succ j=>
   cases i with
   |succ i=>exact Qdx hr j a b i oM (by simpa using h1) (by simpa using h2)
   |zero=>
    have e:x=a:=by simpa using h1
    subst e;have h2':(y::r)[j]?=some b:=by simpa using h2
    cases j with
    |zero=>
     have e:y=b:=by simpa using h2'
     subst e;exact hxy
    |succ j=>exact Qck hxy (Qdx hr (j+1) y b 0 oM rfl h2')
def Qcv (l:List At) (m:Mk):Nat:=l.countP fun a=>decide (Qau a.1 m<0)
theorem Q3k (l:List At) (m:Mk):Qcv l m≤l.length:=List.countP_le_length
theorem Za4 {p:Prop} (h:p:=by
 rw[List.countP_eq_zero];intro a ha;obtain⟨t,ht,e⟩:=List.mem_iff_getElem.1 ha;have:=h2 (n+t) a (by rw[←List.getElem?_drop,List.getElem?_eq_getElem ht,e]) oM;simpa using this):p:=h
theorem Zat {p:Prop} (h:p:=by
 rw[List.countP_eq_length];intro a ha;obtain⟨t,ht,e⟩:=List.mem_iff_getElem.1 ha;have ht':t<n:=by rw[List.length_take] at ht;omega
 exact decide_eq_true (h1 t a (by rw[←List.getElem?_take_of_lt ht',List.getElem?_eq_getElem ht,e]) ht')):p:=h
theorem Q3j {l:List At} {m:Mk} {n:Nat} (hn:n≤l.length) (h1:∀t a,l[t]?=some a→t<n→Qau a.1 m<0) (h2:∀t a,l[t]?=some a→n≤t→¬Qau a.1 m<0):Qcv l m=n:=by
 unfold Qcv;rw[←List.take_append_drop n l,List.countP_append];have e1:(l.take n).countP (fun a=>decide (Qau a.1 m<0))=(l.take n).length:=by
  exact Zat
 have e2:(l.drop n).countP (fun a=>decide (Qau a.1 m<0))=0:=by
  exact Za4
 rw[e1,e2,List.length_take];omega
def Qkb (l:List At) (m:Mk) (i j:Nat):Prop:=i≤j∧j≤l.length∧(∀t a,l[t]?=some a→t<i→Qau a.1 m<0)∧∀t a,l[t]?=some a→j≤t→¬Qau a.1 m<0
theorem Qtv (l:List At) (m:Mk):Qkb l m 0 l.length:=
 ⟨Nat.zero_le _,Nat.le_refl _,fun t a _ h=>by omega,fun t a h ht=>by rw[List.getElem?_eq_none ht] at h;cases h⟩
theorem Qy8 {l:List At} {m:Mk} {i j h:Nat} {a:At} (hs:Qa9 l) (hh:Qkb l m i j) (h1:h<j) (e:l[h]?=some a) (ho:Qau a.1 m<0):Qkb l m (h+1) j:=by
 refine⟨oM,hh.2.1,fun t b hb ht=> ?_,hh.2.2.2⟩;by_cases h2:t=h
 ·subst h2;have:a=b:=by rw[e] at hb;simpa using hb
  subst this;exact ho
 ·exact ordM_lt.2 (Qck (Qdx hs h b a t oM hb e) (ordM_lt.1 ho))
theorem Qv3 {l:List At} {m:Mk} {i j h:Nat} {a:At} (hs:Qa9 l) (hh:Qkb l m i j) (h0:i≤h) (h1:h<j) (e:l[h]?=some a) (ho:¬Qau a.1 m<0):Qkb l m i h:=by
 refine⟨h0,by have:=hh.2.1;omega,hh.2.2.1,fun t b hb ht hlt=> ?_⟩;by_cases h2:t=h
 ·subst h2;have:a=b:=by rw[e] at hb;simpa using hb
  subst this;exact ho hlt
 ·exact ho (ordM_lt.2 (Qck (Qdx hs t a b h oM e hb) (ordM_lt.1 hlt)))
theorem Qqo {l:List At} {m:Mk} {i:Nat} (hh:Qkb l m i i):Qcv l m=i:=Q3j hh.2.1 hh.2.2.1 hh.2.2.2
theorem Q58 {l:List At} {m:Mk} {i:Nat} (hh:Qkb l m i i) (h:l.length≤i):Qel l m=false:=by
 unfold Qel;rw[List.any_eq_false];intro a ha;obtain⟨t,ht,e⟩:=List.mem_iff_getElem.1 ha;have:=hh.2.2.1 t a (by rw[List.getElem?_eq_getElem ht,e]) oM;simp;omega
theorem Q2j {l:List At} {m:Mk} {i:Nat} {a:At} (hs:Qa9 l) (hh:Qkb l m i i) (e:l[i]?=some a):Qel l m=(Qau a.1 m==0):=by
 cases h:(Qau a.1 m==0) with
 |true=>
  unfold Qel;rw[List.any_eq_true];exact⟨a,List.mem_of_getElem? e,by simpa using h⟩
 |false=>
  unfold Qel;rw[List.any_eq_false];intro b hb;obtain⟨t,ht,e2⟩:=List.mem_iff_getElem.1 hb;have e3:l[t]?=some b:=by rw[List.getElem?_eq_getElem ht,e2]
  have h0:¬Qau a.1 m=0:=by simpa using h
  have hr:=Qbw a.1 m;have h1:=hh.2.2.2 i a e (Nat.le_refl _);simp only[decide_eq_true_eq];intro hz;have hbm:=ordM_zero.1 hz;rcases Nat.lt_trichotomy t i with hlt|rfl|hgt
  ·have:=hh.2.2.1 t b e3 hlt;omega
  ·rw[e] at e3;have:a=b:=by simpa using e3
   subst this;exact h0 hz
  ·have:=Qdx hs t a b i hgt e e3;rw[hbm] at this;omega
def Qlu (n:Nat) (b:Bool) (w:World) (e:Ending) (w':World):Prop:=e= .returned (.tuple #[.int .i64 n,.bool b])∧Ext w w'
theorem Qon {F G:Nat→Prop} {w:World} {cs ds:List Value} {a:At} {m:Mk} (ha:RAt F w cs a) (hb:RMk G w ds m):
  Calls Tryz.prog 243 #[.agg cs.toArray,.agg ds.toArray] w fun e w'=>e= .returned (.int .i64 (Qau a.1 m))∧Ext w w':=by
 obtain⟨v,rfl,hl,ic⟩:=ha;obtain⟨u,rfl,hm,id⟩:=hb;obtain⟨⟨l,c⟩,s⟩:=a;obtain⟨m,d⟩:=m;simp only at hl hm ic id ⊢;obtain⟨a1,n1,c1,rfl⟩:=hl.slice;obtain⟨a2,n2,c2,rfl⟩:=hm.slice;have HO:=hH (fun(W:World) (hx:Ext w W)=>Qf2 (Qam (hl.ext Qap hx) ic) (Qam (hm.ext Qap hx) id));clear hl hm ic id;go_enter Tryz.func243,Tryz.ntmps243;go_wp2_with (go_at_call 220;go_must ((with_reducible refine(HO.o _ Qac).mono ?_);rintro e w1 ⟨rfl,hx1⟩))
 go_ret;exact⟨rfl,Qac⟩
theorem Za2 {p:Prop} (h:p:=by
 rintro w3 ⟨⟨w3x,hx3⟩,rfl⟩;clear hlater;go_wp2_with fail
 go_roundw
 case rel=>exact⟨i,h,oM,oM,rfl,rfl,HF,ext_trans HX.o (ext_trans hw2 hx3)⟩
 case measure=>simp[intOf];omega):p:=h
theorem Za0 {p:Prop} (h:p:=by
 rintro w3 ⟨⟨w3x,hx3⟩,rfl⟩;clear hlater;go_wp2_with fail
 go_roundw
 case rel=>exact⟨h+1,j,oM,oM,by go_num,rfl,HF,ext_trans HX.o (ext_trans hw2 hx3)⟩
 case measure=>simp[intOf];omega):p:=h
theorem Qz7 {F G:Nat→Prop} {w:World} {v:Value} {ds:List Value} {l:List At} {m:Mk} (hl:RSl RAt 3 F w v l) (hm:RMk G w ds m) (hs:Qa9 l) (hn:l.length≤1000000):
  Calls Tryz.prog 242 #[v,.agg ds.toArray,.func (.func 243) #[] #[]] w (Qlu (Qcv l m) (Qel l m) w):=by
 obtain⟨a0,n0,c0,rfl⟩:=hl.slice;obtain⟨rfl,_,_⟩:=hl.len;have HMX:=hH (fun(W:World) (hx:Ext w W)=>gMk.ext hm hx);obtain⟨u,rfl,hm,_⟩:=hm;obtain⟨m,d⟩:=m;simp only at hm HMX ⊢;obtain⟨a2,n2,c2,rfl⟩:=hm.slice;have HL:=hH hl;have HS:=hH hs;clear hl hm hs;go_enter Tryz.func242,Tryz.ntmps242;go_wp2
 go_loopw [9,10] (fun iv jv wr=>∃i j:Nat,i≤j∧j≤l.length∧iv= .int .i64 i∧jv= .int .i64 j∧Hid (Qkb l (m,d) i j)∧Ext (w.alloc (.cells #[.slice a2 n2 c2,.int .i64 d] 103)) wr) (fun iv jv _=>(intOf jv).toNat-(intOf iv).toNat)
 case atStart=>exact⟨0,l.length,Nat.zero_le _,Nat.le_refl _,rfl,rfl,hH (Qtv _ _),ext_refl _⟩
 case round=>
  obtain⟨i,j,hij,hjl,rfl,rfl,HH,hx⟩:=hrel;have hw:Ext w wr:=ext_trans (ext_alloc (ext_refl _) _) hx;have z1:wr.cell? ⟨w.heap.size,0,none⟩=some (.slice a2 n2 c2):=(hx.cells _ _ sO).trans gS;have z2:wr.cell? ⟨w.heap.size,1,none⟩=some (.int .i64 d):=(hx.cells _ _ sO).trans gS;have hsz:=hx.size
  (try simp at hsz)
  have hbz:w.heap.size<wr.heap.size:=oM;have HX:=hH hx;have HW:=hH hw;clear hx hw;by_cases hlt:i<j
  ·obtain⟨h,hh⟩:∃h:Nat,h=(i+j) / 2:=⟨_,rfl⟩;have hlo:i≤h:=oM;have hhi:h<j:=oM;have hhl:h<l.length:=oM;have hsh:(((i:Int)+(j:Int)) >>> 1)=(h:Int):=by rw[Int.shiftRight_eq_div_pow];omega
   have hsn:(i+j) >>> 1=h:=by rw[Nat.shiftRight_eq_div_pow];omega
   have hq2:((i:Int)+(j:Int)) / 2=(h:Int):=oM;have HHH:=hH hh;clear hh;obtain⟨b,o,p,c,s,ap,cp,rfl,hb,ek,ick,hpp,y0,y1,y2⟩:=Qcd (HL.o.ext gAt HW.o) hhl;have HCM:=hH (fun(W:World) (hx:Ext wr W)=>Qon (Qm2 (s:=s) (hpp.ext Qap hx) ick) (HMX.o W (ext_trans HW.o hx)));have HEK:=hH ek;clear hpp ick ek;by_cases g:Qau (p,c) (m,d)<0
   ·have HF:=hH (Qy8 HS.o HH.o hhi HEK.o g);have t1:decide (Qau (p,c) (m,d)<0)=true:=decide_eq_true g;generalize Qau (p,c) (m,d)=od at *;clear g;go_wp2_with fail
    refine Qad (fun W2 eW2=> ?_);obtain⟨e0,e1⟩:=rR2 eW2 w.heap.size (.slice a2 n2 c2) (.int .i64 d);have e2:=rL eW2 ⟨b,o+h * 3,none⟩ (.slice ap p.length cp);have e3:=rL eW2 ⟨b,o+h * 3+1,none⟩ (.int .i64 c);have e4:=rL eW2 ⟨b,o+h * 3+2,none⟩ (.int .u8 s.toNat);have zW2_0:=zE eW2 b;have zW2_1:=zE eW2 w.heap.size;have hw2:=xE wr eW2;clear eW2;refine Qaa fol kR (fun hlater=> ?_);repeat(go_big_quiet_step ((first
      |(go_at_call 243;(with_reducible exact Qah (HCM.o _ (ext_trans hw2 (Later.ext _))))))))
    refine wpQuiet_nil ?_;exact Za0
   ·have HF:=hH (Qv3 HS.o HH.o hlo hhi HEK.o g);have t1:decide (Qau (p,c) (m,d)<0)=false:=decide_eq_false g;generalize Qau (p,c) (m,d)=od at *;clear g;go_wp2_with fail
    refine Qad (fun W2 eW2=> ?_);obtain⟨e0,e1⟩:=rR2 eW2 w.heap.size (.slice a2 n2 c2) (.int .i64 d);have e2:=rL eW2 ⟨b,o+h * 3,none⟩ (.slice ap p.length cp);have e3:=rL eW2 ⟨b,o+h * 3+1,none⟩ (.int .i64 c);have e4:=rL eW2 ⟨b,o+h * 3+2,none⟩ (.int .u8 s.toNat);have zW2_0:=zE eW2 b;have zW2_1:=zE eW2 w.heap.size;have hw2:=xE wr eW2;clear eW2;refine Qaa fol kR (fun hlater=> ?_);repeat(go_big_quiet_step ((first
      |(go_at_call 243;(with_reducible exact Qah (HCM.o _ (ext_trans hw2 (Later.ext _))))))))
    refine wpQuiet_nil ?_;exact Za2
  ·have hji:j=i:=oM;subst hji;by_cases hin:j<l.length
   ·obtain⟨b,o,p,c,s,ap,cp,rfl,hb,ek,ick,hpp,y0,y1,y2⟩:=Qcd (HL.o.ext gAt HW.o) hin;have HCM:=hH (fun(W:World) (hx:Ext wr W)=>Qon (Qm2 (s:=s) (hpp.ext Qap hx) ick) (HMX.o W (ext_trans HW.o hx)));have HF:=hH (Q2j HS.o HH.o ek);have t2:decide ((j:Int)<(l.length:Int))=true:=decide_eq_true oM;have t3:decide (j<l.length)=true:=decide_eq_true oM;clear hpp ick ek;generalize Qau (p,c) (m,d)=od at *;go_wp2_with fail
    refine Qad (fun W2 eW2=> ?_);obtain⟨e0,e1⟩:=rR2 eW2 w.heap.size (.slice a2 n2 c2) (.int .i64 d);have e2:=rL eW2 ⟨b,o+j * 3,none⟩ (.slice ap p.length cp);have e3:=rL eW2 ⟨b,o+j * 3+1,none⟩ (.int .i64 c);have e4:=rL eW2 ⟨b,o+j * 3+2,none⟩ (.int .u8 s.toNat);have zW2_0:=zE eW2 b;have zW2_1:=zE eW2 w.heap.size;have hw2:=xE wr eW2;clear eW2;refine Qaa fol kR (fun hlater=> ?_);repeat(go_big_quiet_step ((first
      |(go_at_call 243;(with_reducible exact Qah (HCM.o _ (ext_trans hw2 (Later.ext _))))))))
    refine wpQuiet_nil ?_;rintro w3 ⟨⟨w3x,hx3⟩,rfl⟩;clear hlater;go_wp2_with fail
    refine bodyPost_ret (v:= .tuple #[.int .i64 (j:Nat),.bool (od==0)]) (by simp[results,Tryz.results242,go_sem]) rfl ⟨by rw[Qqo HH.o,HF.o],ext_trans HW.o (ext_trans hw2 hx3)⟩
   ·have HF:=hH (Q58 HH.o oM);have t2:decide ((j:Int)<(l.length:Int))=false:=decide_eq_false oM;have t3:decide (j<l.length)=false:=decide_eq_false oM;go_wp2_with fail
    refine Qad (fun W2 eW2=> ?_);obtain⟨e0,e1⟩:=rR2 eW2 w.heap.size (.slice a2 n2 c2) (.int .i64 d);have zW2_0:=zE eW2 w.heap.size;have hw2:=xE wr eW2;clear eW2;refine Qaa fol kR (fun hlater=> ?_);repeat(go_big_quiet_step ((fail)))
    refine wpQuiet_nil ?_;rintro w3 ⟨⟨w3x,hx3⟩,rfl⟩;clear hlater;go_wp2_with fail
    refine bodyPost_ret (v:= .tuple #[.int .i64 (j:Nat),.bool false]) (by simp[results,Tryz.results242,go_sem]) rfl ⟨by rw[Qqo HH.o,HF.o],ext_trans HW.o (ext_trans hw2 hx3)⟩
theorem Qkq {F G:Nat→Prop} {w:World} {v:Value} {ds:List Value} {l:List At} {m:Mk} (hl:RSl RAt 3 F w v l) (hm:RMk G w ds m) (hs:Qa9 l) (hn:l.length≤1000000):
  Calls Tryz.prog 221 #[v,.agg ds.toArray] w (Qlu (Qcv l m) (Qel l m) w):=by
 have HF:=hH (fun(W:World) (hx:Ext w W)=>Qz7 (hl.ext gAt hx) (gMk.ext hm hx) hs hn);obtain⟨a0,n0,c0,rfl⟩:=hl.slice;obtain⟨u,rfl,hm,_⟩:=hm;obtain⟨m,d⟩:=m;simp only at hm HF ⊢;obtain⟨a2,n2,c2,rfl⟩:=hm.slice;generalize Qcv l (m,d)=n at HF ⊢;generalize Qel l (m,d)=b at HF ⊢;clear hl hm hs;go_enter Tryz.func221,Tryz.ntmps221;go_wp2_with (go_at_call 242;go_must ((with_reducible refine(HF.o _ Qac).mono ?_);rintro e w1 ⟨rfl,hx1⟩))
 refine bodyPost_ret (v:= .tuple #[.int .i64 (n:Nat),.bool b]) (by simp[results,Tryz.results221,go_sem]) rfl ⟨rfl,Qac⟩
theorem Zaz {p:Prop} (h:p:=by
 have zW2_0:=zE eW2 b;have zW2_1:=zE eW2 w.heap.size;have hw2:=xE wr eW2;clear eW2;refine Qaa fol kR (fun hlater=> ?_);repeat(go_big_quiet_step ((first
   |(go_at_call 135;(with_reducible exact Qah (HCM.o _ (ext_trans hw2 (Later.ext _))))))))
 refine wpQuiet_nil ?_;rintro w3 ⟨⟨w3x,hx3⟩,rfl⟩;clear hlater;go_wp2_with fail
 go_ret;exact⟨rb HC.o.symm,ext_trans HW.o (ext_trans hw2 hx3)⟩):p:=h
theorem Zau {p:Prop} (h:p:=by
 have zW2_0:=zE eW2 b;have zW2_1:=zE eW2 w.heap.size;have hw2:=xE wr eW2;clear eW2;refine Qaa fol kR (fun hlater=> ?_);repeat(go_big_quiet_step ((first
   |(go_at_call 135;(with_reducible exact Qah (HCM.o _ (ext_trans hw2 (Later.ext _))))))))
 refine wpQuiet_nil ?_;rintro w3 ⟨⟨w3x,hx3⟩,rfl⟩;clear hlater;go_wp2_with fail
 go_roundw
 case rel=>exact⟨k+1,oM,by go_num,HD,ext_trans HX.o (ext_trans hw2 hx3)⟩
 case measure=>simp[intOf];omega):p:=h
theorem Qor {F G:Nat→Prop} {w:World} {v:Value} {ds:List Value} {l:List At} {m:Mk} (hl:RSl RAt 3 F w v l) (hm:RMk G w ds m):
  Calls Tryz.prog 122 #[v,.agg ds.toArray] w fun e w'=>e= .returned (.bool (Qel l m))∧Ext w w':=by
 obtain⟨a0,n0,c0,rfl⟩:=hl.slice;obtain⟨rfl,hn1,hn2⟩:=hl.len;unfold maxLen at hn2;have q1:l.length≤9223372036854775807:=oM;clear hn1 hn2;have HMX:=hH (fun(W:World) (hx:Ext w W)=>gMk.ext hm hx);obtain⟨u,rfl,hm,_⟩:=hm;obtain⟨m,d⟩:=m;simp only at hm HMX ⊢;obtain⟨a2,n2,c2,rfl⟩:=hm.slice;have HL:=hH hl;clear hl hm;obtain⟨pr,hpr⟩:∃pr:At→Bool,pr=fun a=>decide (Qau a.1 (m,d)=0):=⟨_,rfl⟩
 have hM:Qel l (m,d)=l.any pr:=by rw[hpr];rfl
 rw[hM];have HPR:=hH (fun(a:At)=>(show(Qau a.1 (m,d)==0)=pr a by rw[hpr];rfl));clear hM hpr;go_enter Tryz.func122,Tryz.ntmps122;go_wp2
 go_loopw [5] (fun iv wr=>∃k:Nat,k≤l.length∧iv= .int .i64 k∧Hid ((l.take k).any pr=false)∧Ext (w.alloc (.cells #[.slice a2 n2 c2,.int .i64 d] 103)) wr) (fun iv _=>l.length-(intOf iv).toNat)
 case atStart=>exact⟨0,Nat.zero_le _,rfl,hH sI,ext_refl _⟩
 case round=>
  obtain⟨k,hk,rfl,HI,hx⟩:=hrel;have hw:Ext w wr:=ext_trans (ext_alloc (ext_refl _) _) hx;have z1:wr.cell? ⟨w.heap.size,0,none⟩=some (.slice a2 n2 c2):=(hx.cells _ _ sO).trans gS;have z2:wr.cell? ⟨w.heap.size,1,none⟩=some (.int .i64 d):=(hx.cells _ _ sO).trans gS;have hsz:=hx.size
  (try simp at hsz)
  have hbz:w.heap.size<wr.heap.size:=oM;have HX:=hH hx;have HW:=hH hw;clear hx hw;by_cases hlt:k<l.length
  ·obtain⟨b,o,p,c,s,ap,cp,rfl,hb,ek,ick,hpp,y0,y1,y2⟩:=Qcd (HL.o.ext gAt HW.o) hlt;have HCM:=hH (fun(W:World) (hx:Ext wr W)=>Qjd (Qam (hpp.ext Qap hx) ick) (HMX.o W (ext_trans HW.o hx)));rw[HPR.o ((p,c),s)] at HCM;have HA:=hH (Qdn (p:=pr) ek);clear hpp ick ek;cases g:pr ((p,c),s) with
   |true=>
    rw[g] at HCM;have HC:=hH (Qbz (p:=pr) (l:=l) (k:=k+1) (by rw[HA.o,HI.o,g];rfl));go_wp2_with fail
    refine Qad (fun W2 eW2=> ?_);obtain⟨e0,e1⟩:=rR2 eW2 w.heap.size (.slice a2 n2 c2) (.int .i64 d);have e2:=rL eW2 ⟨b,o+k * 3,none⟩ (.slice ap p.length cp);have e3:=rL eW2 ⟨b,o+k * 3+1,none⟩ (.int .i64 c);have e4:=rL eW2 ⟨b,o+k * 3+2,none⟩ (.int .u8 s.toNat);exact Zaz
   |false=>
    rw[g] at HCM;have HD:=hH (show(l.take (k+1)).any pr=false by rw[HA.o,HI.o,g];rfl);go_wp2_with fail
    refine Qad (fun W2 eW2=> ?_);obtain⟨e0,e1⟩:=rR2 eW2 w.heap.size (.slice a2 n2 c2) (.int .i64 d);have e2:=rL eW2 ⟨b,o+k * 3,none⟩ (.slice ap p.length cp);have e3:=rL eW2 ⟨b,o+k * 3+1,none⟩ (.int .i64 c);have e4:=rL eW2 ⟨b,o+k * 3+2,none⟩ (.int .u8 s.toNat);exact Zau
  ·have hkl:k=l.length:=oM;subst hkl;have hi:=HI.o;rw[List.take_of_length_le (Nat.le_refl _)] at hi;go_wp2
   go_ret;exact⟨rb hi.symm,HW.o⟩
theorem Qc7 {F:Nat→Prop} {w:World} {a:Option Addr} {n cap:Nat} {q:List Mk} (h:RSl RMk 2 F w (.slice a n cap) q) {i:Nat} (hi:i<n):
  ∃b o p c ap cp,a=some ⟨b,o,none⟩∧b<w.heap.size∧q[i]?=some (p,c)∧I64 c∧RSl Qdt 2 F w (.slice ap p.length cp) p∧
   w.cell? ⟨b,o+i * 2,none⟩=some (.slice ap p.length cp)∧w.cell? ⟨b,o+i * 2+1,none⟩=some (.int .i64 c):=by
 obtain⟨b,o,x,cs,e1,e2,e3,_,e4,v,rfl,h1,h2⟩:=h.at_ hi;obtain⟨ap,np,cp,rfl⟩:=h1.slice;obtain⟨rfl,_,_⟩:=h1.len;exact⟨b,o,x.1,x.2,ap,cp,e1,e2,e3,h2,h1,by simpa using e4 0 _ rfl,by simpa [Nat.add_assoc] using e4 1 _ rfl⟩
def Qc1 (ats:List At) (prev:Option Mk):List Mk→Int
 | []=>0
 |m::r=>
  if Qaf m≠0 then Qaf m
  else if(match prev with|some p=>decide (0≤Qau p m)|none=>false) then 4
  else if Qel ats m=true then 4
  else Qc1 ats (some m) r
def Qax (s:St):Int:=if Qb0 s.1≠0 then Qb0 s.1 else if 600<s.2.length then 2 else Qc1 s.1 none s.2
def Qme (l:List Mk) (k:Nat):Option Mk:=if k=0 then none else l[k-1]?
section
variable {ats:List At} {l:List Mk} {k:Nat} {a b:Mk} {p:Option Mk}
theorem Qmt (h:¬Qb0 ats=0):Qax (ats,l)=Qb0 ats:=by unfold Qax;rw[if_pos h]
theorem Qog (h:Qb0 ats=0) (h2:600<l.length):Qax (ats,l)=2:=by unfold Qax;rw[if_neg (by simpa using h),if_pos h2]
theorem Qqe (h:Qb0 ats=0) (h2:¬600<l.length):Qax (ats,l)=Qc1 ats (Qme l 0) (l.drop 0):=by unfold Qax;rw[if_neg (by simpa using h),if_neg h2];rfl
theorem Qd4 (h:Qb0 ats=0):ats.length≤300∧Qa9 ats∧∀a∈ats,Qaf a.1=0∧Qdm a.2=true:=by
 by_cases hm:300<ats.length
 ·rw[Qjw hm] at h;omega
 ·rw[Qlz hm] at h;have:=checkAF_ok.1 h;exact⟨oM,this.2.1,this.1⟩
theorem Qoa (h:l.length≤k):Qc1 ats p (l.drop k)=0:=by rw[List.drop_eq_nil_of_le h];unfold Qc1;rfl
theorem Qq4 (h:l[k]?=some a):Qme l (k+1)=some a:=by unfold Qme;rw[if_neg oM,Nat.add_sub_cancel,h]
theorem Qui (hb:l[k-1]?=some b) (hk:0<k):Qme l k=some b:=by unfold Qme;rw[if_neg oM,hb]
theorem Qmp (h:l[k]?=some a) (h1:¬Qaf a=0):Qc1 ats p (l.drop k)=Qaf a:=by rw[Qci h];unfold Qc1;rw[if_pos h1]
theorem Qn9 (h:l[k]?=some a) (hb:l[k-1]?=some b) (hk:0<k) (h1:Qaf a=0) (h3:0≤Qau b a):Qc1 ats (Qme l k) (l.drop k)=4:=by
 rw[Qui hb hk,Qci h];unfold Qc1;rw[if_neg (by rw[h1];simp),if_pos (by simpa using h3)]
theorem Qkf (h:l[k]?=some a) (h1:Qaf a=0) (hk:k=0):Qc1 ats (Qme l k) (l.drop k)=if Qel ats a=true then 4 else Qc1 ats (Qme l (k+1)) (l.drop (k+1)):=by
 rw[Qq4 h,Qci h];subst hk;have hp:Qme l 0=none:=rfl;rw[hp];conv=>lhs;unfold Qc1
 rw[if_neg (by rw[h1];simp)];simp
theorem Qmq (h:l[k]?=some a) (hb:l[k-1]?=some b) (hk:0<k) (h1:Qaf a=0) (h3:¬0≤Qau b a):Qc1 ats (Qme l k) (l.drop k)=if Qel ats a=true then 4 else Qc1 ats (Qme l (k+1)) (l.drop (k+1)):=by
 rw[Qq4 h,Qui hb hk,Qci h];conv=>lhs;unfold Qc1
 rw[if_neg (by rw[h1];simp),if_neg (by simpa using h3)]
end
theorem Qh1 {F:Nat→Prop} {w:World} {v u:Value} {a:List At} {g:List Mk} (h:RSl RAt 3 F w v a) (k:RSl RMk 2 F w u g):RSt F w [v,u] (a,g):=⟨v,u,rfl,h,k⟩
end Go.Proofs.YtgnccjojfebkeaaGreat
namespace Go.Proofs.YtgnccjojfebkeaaGreat
open Go Go.RowKit Cp
def mnS (x y:UInt8):UInt8:=if y<x then y else x
def Qh3:List At→At→List At
 | [],a=> [a]
 |x::r,a=>if Qau x.1 a.1=0 then(x.1,mnS x.2 a.2)::r else if Qau x.1 a.1=1 then a::x::r else x::Qh3 r a
theorem Qg4 (x:At) (r:List At) (a:At):Qh3 (x::r) a=if Qau x.1 a.1=0 then(x.1,mnS x.2 a.2)::r else if Qau x.1 a.1=1 then a::x::r else x::Qh3 r a:=rfl
def Qcf (l m:List At):List At:=m.foldl Qh3 l
def Qbb (l:List At) (ms:List Mk):List At:=l.filter fun a=> !Qc5 ms a.1
def Qec (l:List At):Prop:=Qa9 l∧∀a∈l,Qaf a.1=0∧Qdm a.2=true
theorem Qx7 {l:List At} (h:Qb0 l=0):Qec l:=⟨(Qd4 h).2.1,(Qd4 h).2.2⟩
theorem Qsq {l:List At} (h:Qec l):Qb0 l=if 300<l.length then 2 else 0:=by
 unfold Qb0;by_cases h1:300<l.length
 ·rw[if_pos h1,if_pos h1]
 ·rw[if_neg h1,if_neg h1];exact checkAF_ok.2 ⟨h.2,h.1,sI⟩
theorem Qb3 {x:At} {r:List At} (h:Qa9 (x::r)):Qa9 r:=by
 cases r with
 |nil=>trivial
 |cons b r=>exact h.2
theorem Qcc {x:At} {r:List At} (h:Qa9 (x::r)):∀b∈r,Qau x.1 b.1= -1:=by
 intro b hb;obtain⟨j,hj⟩:=List.getElem?_of_mem hb;exact Qdx h (j+1) x b 0 oM rfl (by simpa using hj)
theorem Qg9 {x:At} {r:List At} (h:Qa9 r) (k:∀b∈r,Qau x.1 b.1= -1):Qa9 (x::r):=by
 cases r with
 |nil=>trivial
 |cons b r=>exact⟨k b sI,h⟩
theorem Qk9 {a b:Mk} (h:Qau a b=1):Qau b a= -1:=by have:=Qo2 a b;omega
theorem Qzk {a b:Mk} (h:Qau a b= -1):Qau b a=1:=by have:=Qo2 a b;omega
theorem Qhw {a b c:Mk} (h:Qau a b= -1) (k:0≤Qau a c):Qau b c=1:=by
 rcases Qbw b c with h1|h1|h1
 ·have:=Qck h h1;omega
 ·rw[ordM_zero] at h1;subst h1;omega
 ·exact h1
theorem Qj5 (x:At) (r:List At) (m:Mk):Qcv (x::r) m=Qcv r m+if Qau x.1 m<0 then 1 else 0:=by
 unfold Qcv;rw[List.countP_cons];simp
theorem Qie (x:At) (r:List At) (m:Mk):Qel (x::r) m=(decide (Qau x.1 m=0) ||Qel r m):=by simp[Qel]
theorem Qg3 {r:List At} {m:Mk} (h:∀b∈r,Qau b.1 m=1):Qcv r m=0∧Qel r m=false:=by
 constructor
 ·unfold Qcv;rw[List.countP_eq_zero];intro b hb;have:=h b hb;simp;omega
 ·unfold Qel;rw[List.any_eq_false];intro b hb;have:=h b hb;simp;omega
theorem Qx0:∀{l:List At} {a:At},Qa9 l→Qel l a.1=true→∃x,l[Qcv l a.1]?=some x∧x.1=a.1∧Qh3 l a=l.set (Qcv l a.1) (x.1,mnS x.2 a.2)
 | [],a,_,h=>by simp[Qel] at h
 |x::r,a,hs,h=>by
  have hr:=Qcc hs;rw[Qj5];rcases Qbw x.1 a.1 with h1|h1|h1
  ·rw[Qie,decide_eq_false oM,Bool.false_or] at h;obtain⟨y,e1,e2,e3⟩:=Qx0 (Qb3 hs) h;refine⟨y,?_,e2,?_⟩
   ·rw[if_pos oM];simpa using e1
   ·unfold Qh3;rw[if_neg oM,if_neg oM,if_pos oM,e3];rfl
  ·obtain⟨e1,_⟩:=Qg3 (r:=r) (m:=a.1) (fun b hb=>Qhw (hr b hb) oM);rw[e1,if_neg oM];refine⟨x,rfl,ordM_zero.1 h1,?_⟩;unfold Qh3;rw[if_pos h1];rfl
  ·exfalso
   rw[Qie,decide_eq_false oM,Bool.false_or,(Qg3 (r:=r) (m:=a.1) (fun b hb=>Qhw (hr b hb) oM)).2] at h;simp at h
theorem Qx3:∀{l:List At} {a:At},Qa9 l→Qel l a.1=false→Qh3 l a=l.take (Qcv l a.1)++a::l.drop (Qcv l a.1)
 | [],a,_,_=>by simp[Qh3]
 |x::r,a,hs,h=>by
  have hr:=Qcc hs;rw[Qie,Bool.or_eq_false_iff] at h;have h0:Qau x.1 a.1≠0:=by simpa using h.1
  rw[Qj5];unfold Qh3;rw[if_neg h0];by_cases h1:Qau x.1 a.1=1
  ·rw[if_pos h1,(Qg3 (r:=r) (m:=a.1) (fun b hb=>Qhw (hr b hb) oM)).1,if_neg oM];rfl
  ·have h2:Qau x.1 a.1= -1:=by rcases Qbw x.1 a.1 with h3|h3|h3<;>omega
   rw[if_neg h1,if_pos oM,Qx3 (Qb3 hs) h.2];rfl
theorem Qnp:∀{l:List At} {a b:At},b∈Qh3 l a→(b.1=a.1∨∃x∈l,x.1=b.1)∧(b.2=a.2∨∃x∈l,x.2=b.2)
 | [],a,b,h=>by
  have:b=a:=by simpa [Qh3] using h
  subst this;exact⟨.inl rfl,.inl rfl⟩
 |x::r,a,b,h=>by
  unfold Qh3 at h;by_cases h1:Qau x.1 a.1=0
  ·rw[if_pos h1] at h;rcases List.mem_cons.1 h with rfl|h
   ·refine⟨.inr ⟨x,sI,rfl⟩,?_⟩
    show mnS x.2 a.2=a.2∨∃y∈x::r,y.2=mnS x.2 a.2
    unfold mnS;split
    ·exact .inl rfl
    ·exact .inr ⟨x,sI,rfl⟩
   ·exact⟨.inr ⟨b,by simp[h],rfl⟩,.inr ⟨b,by simp[h],rfl⟩⟩
  ·rw[if_neg h1] at h;by_cases h2:Qau x.1 a.1=1
   ·rw[if_pos h2] at h;rcases List.mem_cons.1 h with rfl|h
    ·exact⟨.inl rfl,.inl rfl⟩
    ·exact⟨.inr ⟨b,h,rfl⟩,.inr ⟨b,h,rfl⟩⟩
   ·rw[if_neg h2] at h;rcases List.mem_cons.1 h with rfl|h
    ·exact⟨.inr ⟨b,sI,rfl⟩,.inr ⟨b,sI,rfl⟩⟩
    ·obtain⟨g1,g2⟩:=Qnp h;exact⟨g1.imp id fun⟨y,hy,e⟩=>⟨y,by simp[hy],e⟩,g2.imp id fun⟨y,hy,e⟩=>⟨y,by simp[hy],e⟩⟩
theorem Qo7:∀{l:List At} {a:At},Qa9 l→Qa9 (Qh3 l a)
 | [],a,_=>trivial
 |x::r,a,hs=>by
  have hr:=Qcc hs;have ht:=Qb3 hs;unfold Qh3;by_cases h1:Qau x.1 a.1=0
  ·rw[if_pos h1];exact Qg9 ht hr
  ·rw[if_neg h1];by_cases h2:Qau x.1 a.1=1
   ·rw[if_pos h2];refine Qg9 hs (fun b hb=> ?_);rcases List.mem_cons.1 hb with rfl|hb
    ·exact Qk9 h2
    ·exact Qck (Qk9 h2) (hr b hb)
   ·rw[if_neg h2];refine Qg9 (Qo7 ht) (fun b hb=> ?_);have h3:Qau x.1 a.1= -1:=by rcases Qbw x.1 a.1 with h3|h3|h3<;>omega
    rcases(Qnp hb).1 with e|⟨y,hy,e⟩
    ·rw[e];exact h3
    ·rw[←e];exact hr y hy
theorem Qzv {l:List At} {a:At} (h:Qec l) (h1:Qaf a.1=0) (h2:Qdm a.2=true):Qec (Qh3 l a):=by
 refine⟨Qo7 h.1,fun b hb=> ?_⟩;obtain⟨g1,g2⟩:=Qnp hb;constructor
 ·rcases g1 with e|⟨x,hx,e⟩
  ·rw[e];exact h1
  ·rw[←e];exact(h.2 x hx).1
 ·rcases g2 with e|⟨x,hx,e⟩
  ·rw[e];exact h2
  ·rw[←e];exact(h.2 x hx).2
theorem Qx1:∀(l:List At) (a:At),(Qh3 l a).length≤l.length+1
 | [],a=>by simp[Qh3]
 |x::r,a=>by
  unfold Qh3;split
  ·simp
  ·split
   ·simp
   ·have:=Qx1 r a;simp;omega
theorem Qio:∀{m l:List At},Qec l→(∀a∈m,Qaf a.1=0∧Qdm a.2=true)→Qec (Qcf l m)
 | [],l,h,_=>h
 |a::m,l,h,hm=>Qio (m:=m) (l:=Qh3 l a) (Qzv h (hm a sI).1 (hm a sI).2) (fun b hb=>hm b (by simp[hb]))
theorem Qi8:∀(m l:List At),(Qcf l m).length≤l.length+m.length
 | [],l=>by simp[Qcf]
 |a::m,l=>by
  have h1:=Qi8 m (Qh3 l a);have h2:=Qx1 l a;have e:Qcf l (a::m)=Qcf (Qh3 l a) m:=rfl;rw[e,List.length_cons];omega
theorem Qwe {l m:List At} {k:Nat} {a:At} (h:m[k]?=some a):Qcf l (m.take (k+1))=Qh3 (Qcf l (m.take k)) a:=by
 obtain⟨h1,h2⟩:=List.getElem?_eq_some_iff.1 h;unfold Qcf;rw[List.take_succ_eq_append_getElem h1,h2,List.foldl_append];rfl
def Qh5 (l:List At) (a:At) (k:Nat) (out:List At) (put:Bool):Prop:=
 out++(if put=true then l.drop k else Qh3 (l.drop k) a)=Qh3 l a∧(put=true→∀x∈l.drop k,Qau x.1 a.1=1)∧out.length≤k+1∧(put=false→out.length≤k)
theorem Qtk (l:List At) (a:At):Qh5 l a 0 [] false:=⟨sI,sI,sI,sI⟩
theorem Qyy {l:List At} {a x:At} {k:Nat} {out:List At} (hs:Qa9 (l.drop k)) (h:Qh5 l a k out false) (hx:l[k]?=some x) (h1:Qau x.1 a.1=1):Qh5 l a (k+1) (out++[a]++[x]) true:=by
 obtain⟨e,_,hl,hl2⟩:=h;have hd:=Qci hx;rw[hd] at hs e;have hh:=Qcc hs;refine⟨?_,fun _ y hy=>Qhw (hh y hy) oM,?_,sI⟩
 ·simp only[if_true];rw[if_neg sI] at e;rw[Qg4] at e;rw[if_neg oM,if_pos h1] at e;rw[←e];simp
 ·have:=hl2 rfl;simp;omega
theorem Qvt {l:List At} {a x:At} {k:Nat} {out:List At} (hs:Qa9 (l.drop k)) (h:Qh5 l a k out false) (hx:l[k]?=some x) (h1:Qau x.1 a.1=0):Qh5 l a (k+1) (out++[(x.1,mnS x.2 a.2)]) true:=by
 obtain⟨e,_,hl,hl2⟩:=h;have hd:=Qci hx;rw[hd] at hs e;have hh:=Qcc hs;refine⟨?_,fun _ y hy=>Qhw (hh y hy) oM,?_,sI⟩
 ·simp only[if_true];rw[if_neg sI] at e;rw[Qg4] at e;rw[if_pos h1] at e;rw[←e];simp
 ·have:=hl2 rfl;simp;omega
theorem Qvs {l:List At} {a x:At} {k:Nat} {out:List At} (h:Qh5 l a k out false) (hx:l[k]?=some x) (h1:Qau x.1 a.1= -1):Qh5 l a (k+1) (out++[x]) false:=by
 obtain⟨e,_,hl,hl2⟩:=h;have hd:=Qci hx;rw[hd] at e;refine⟨?_,sI,?_,?_⟩
 ·rw[if_neg sI] at e ⊢;rw[Qg4] at e;rw[if_neg oM,if_neg oM] at e;rw[←e];simp
 ·have:=hl2 rfl;simp;omega
 ·intro _;have:=hl2 rfl;simp;omega
theorem Qyz {l:List At} {a x:At} {k:Nat} {out:List At} (h:Qh5 l a k out true) (hx:l[k]?=some x):Qau x.1 a.1=1∧Qh5 l a (k+1) (out++[x]) true:=by
 obtain⟨e,hp,hl,_⟩:=h;have hd:=Qci hx;rw[hd] at e hp;refine⟨hp rfl x sI,?_,fun _ y hy=>hp rfl y (by simp[hy]),sP,sI⟩;simp only[if_true] at e ⊢;rw[←e];simp
theorem Qyx {l:List At} {a:At} {out:List At} {put:Bool} (h:Qh5 l a l.length out put):(if put=true then out else out++[a])=Qh3 l a:=by
 obtain⟨e,_⟩:=h;rw[List.drop_length] at e;cases put
 ·simpa [Qh3] using e
 ·simpa using e
theorem Qrd {l:List At} {ms:List Mk} {k:Nat} {a:At} (h:l[k]?=some a):Qbb (l.take (k+1)) ms=Qbb (l.take k) ms++if Qc5 ms a.1=true then [] else [a]:=by
 obtain⟨h1,h2⟩:=List.getElem?_eq_some_iff.1 h;unfold Qbb;rw[List.take_succ_eq_append_getElem h1,h2,List.filter_append];cases h3:Qc5 ms a.1<;>simp[h3]
end Go.Proofs.YtgnccjojfebkeaaGreat
