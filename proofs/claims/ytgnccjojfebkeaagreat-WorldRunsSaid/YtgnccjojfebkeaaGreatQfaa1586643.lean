/- A range over a function whose elements hold memory of their own: what is yielded is told of in the world in which it is yielded. -/
import Derived.RangeFuncNested
import Derived.OwnWalkIn
import Derived.Test.YtgnccjojfebkeaaGreatQ463d8804a1
set_option linter.unusedVariables false
set_option linter.unusedSimpArgs false
set_option maxRecDepth 100000
namespace Cp
open Go Go.RowKit
variable {F:Fence} {n:Nat} {P:Program}
def Vds {α:Type} (F:Fence) (n:Nat) (P:Program) (g:Nat) (lb:Array Value) (encs:α→Array Value) (Rp:Nat→World→Nat→α→Prop) (N:Nat) (Fk:Nat→Prop) (w:World):Prop:=
 ∀(l:Nat) (J:List α→World→Prop) (W:World),Ext w W→(∀s A B,J s A→Ext A B→J s B)→
  (∀pre x Wp W1,J pre Wp→Ext Wp W1→Rp Wp.heap.size W1 pre.length x→pre.length<N→
   YieldAt F (n-1) P l (encs x) W1 fun e W'=>e= .returned (.bool true)∧J (pre++[x]) W'∧Keeps Fk W1 W')→
  J [] W→CallsIn F n P g (#[.func (.yield l) #[] #[]]++lb) W fun e W'=>(∃v,e= .returned v)∧∃xs,xs.length=N∧J xs W'
def Vc5 {α:Type} (B:Nat) (Fk:Nat→Prop) (I:List α→World→Prop) (xs:List α) (W:World):Exit→Act→World→Prop
 | .normal,_,W'=>KeepsFrom B W W'∧Keeps Fk W W'∧I xs W'
 |_,_,_=>False
theorem Qnd {α:Type} {g:Operand} {ps:Array Tmp} {assign body:Code} {Q:Exit→Act→World→Prop} {a:Act} {w:World}
  (hro:F.round=none) (h1:1≤n) {gf:Nat} {lb:Array Value} (hg:a.eval g= .func (.func gf) #[] lb) (hFg:F.fn gf) (eg:∀args w,(callFunc gf args).run P w= .ok (.enter gf args) w)
  {encs:α→Array Value} {Rp:Nat→World→Nat→α→Prop} {N:Nat} {Fk:Nat→Prop} {w0:World} (hseq:Vds F (n-1) P gf lb encs Rp N Fk w0) (hFk:¬Fk (w.heap.size+1)) (hb0:Ext w0 w) (hps:∀x,(encs x).size=ps.size)
  (I:List α→World→Prop) (hIe:∀s A B,I s A→Ext A B→I s B) (hIp:∀s W o',I s W→w.heap.size+1<W.heap.size→I s (W.putObj (w.heap.size+1) o')) (h0:I [] w)
  (Ax:List α→α→Act→World→Prop) (hAp:∀pre x a' W o',Ax pre x a' W→w.heap.size+1<W.heap.size→Ax pre x a' (W.putObj (w.heap.size+1) o'))
  (hassign:∀(pre:List α) (x:α) (Wp W:World) (K:Act→World→Prop),I pre Wp→Ext Wp W→w.heap.size+2≤Wp.heap.size→Rp Wp.heap.size W pre.length x→(∀a' W',Ext W W'→Ax pre x a' W'→K a' W')→
   assign.wpIn (F.inRound (w.heap.size+1)) (n-1-1) P (Exit.then K (fun _ _ _=>False)) {tmps:=(ps.zip (encs x)).foldl (fun t (p,v)=>t.setIfInBounds p v) a.tmps,defers:=[]} W)
  (hbody:∀(pre:List α) (x:α) (a':Act) (W:World),I pre W→Ax pre x a' W→pre.length<N→w.heap.size+2≤W.heap.size→body.wpIn (F.inRound (w.heap.size+1)) (n-1-1) P (Vc5 w.heap.size Fk I (pre++[x]) W) a' W)
  (hdone:∀(xs:List α) (W:World),xs.length=N→I xs W→w.heap.size+2≤W.heap.size→W.heap[w.heap.size]?=some (.deferred (some []))→Q .normal {a with defers:={target:= .collected w.heap.size,args:=#[]}::a.defers} W):
  (Code.rangeFunc g ps assign body).wpIn F n P Q a w:=by
 refine wpIn_rangeFunc ?_;intro fn hfn;rw[hro];obtain⟨rec,hrec⟩:∃rec:LoopState→Option Code→Loop,rec=fun st pe=> {state:=st,pending:=pe,fn,tmps:=a.tmps,params:=ps,assign,body,defers:=w.heap.size}:=⟨_,rfl⟩
 obtain⟨W1,hW1⟩:∃W1,(w.alloc (.deferred (some []))).alloc (.loop (rec .ready none))=W1:=⟨_,rfl⟩;have hsz:W1.heap.size=w.heap.size+2:=by rw[←hW1];simp
 have hL1:W1.heap[w.heap.size+1]?=some (.loop (rec .ready none)):=by
  rw[←hW1];have:=World.alloc_heap_new (w.alloc (.deferred (some []))) (.loop (rec .ready none));rwa [World.size_alloc] at this
 have hK1:W1.heap[w.heap.size]?=some (.deferred (some [])):=by
  rw[←hW1];exact(Below.heap_alloc _ _ _ sI).trans (World.alloc_heap_new w _)
 have he1:Ext w W1:=by rw[←hW1];exact ext_alloc (ext_alloc (ext_refl _) _) _
 have hI1:I [] W1:=hIe _ _ _ h0 he1;refine⟨w.heap.size+1,[{target:= .collected w.heap.size,args:=#[]}],W1,{target:= .fn (.func gf) lb,args:=#[.func (.yield (w.heap.size+1)) #[] #[]]},W1,gf,
  #[.func (.yield (w.heap.size+1)) #[] #[]]++lb,W1,?_,?_,?_,?_,fun _=>h1,?_⟩
 ·rw[←hW1,hrec];exact run_enterLoop_outer _ _ _ _ _
 ·simp only[resolve,hg];simp[go_sem]
 ·intro f' hf';simp[Target.leads] at hf';subst hf';exact hFg
 ·simp[invoke,go_sem,eg]
 ·refine(hseq (w.heap.size+1)
   (fun pre W=>I pre W∧W.heap[w.heap.size+1]?=some (.loop (rec .ready none))∧W.heap[w.heap.size]?=some (.deferred (some [])))
   W1 (ext_trans hb0 he1)
   (fun s A B hs he=>⟨hIe _ _ _ hs.1 he,((Below.block he) _ (Array.getElem?_eq_some_iff.1 hs.2.1).1).trans hs.2.1,((Below.block he) _ (Array.getElem?_eq_some_iff.1 hs.2.2).1).trans hs.2.2⟩)
   ?_ ⟨hI1,hL1,hK1⟩).mono ?_
  ·rintro pre x Wp W ⟨hip,hlp,hkp⟩ hext hrp hlen;have hltp:w.heap.size+1<Wp.heap.size:=(Array.getElem?_eq_some_iff.1 hlp).1;have hl:=((Below.block hext) _ hltp).trans hlp;have hk:=((Below.block hext) _ (Nat.lt_of_succ_lt hltp)).trans hkp;have hy:=run_yield (P:=P) (args:=encs x) hl (by rw[hrec];exact hps x);rw[hrec] at hy;refine⟨fn,_,assign,body,hy,roundIn_of_wpIn hfn (hassign pre x Wp W _ hip hext oM hrp ?_)⟩;clear hy;intro a' Wa hea hax;have hia:I pre Wa:=hIe _ _ _ (hIe _ _ _ hip hext) hea;have hl':=((Below.block hea) _ (Array.getElem?_eq_some_iff.1 hl).1).trans hl;have hk':=((Below.block hea) _ (Array.getElem?_eq_some_iff.1 hk).1).trans hk;have hlt:w.heap.size+1<Wa.heap.size:=(Array.getElem?_eq_some_iff.1 hl').1;refine⟨_,run_beginRound hl' (by rw[hrec]),?_⟩;have hl2:(Wa.putObj (w.heap.size+1) (.loop {rec .ready none with state:= .busy})).heap[w.heap.size+1]?=some (.loop {rec .ready none with state:= .busy}):=World.putObj_heap_same hlt;have hk2:(Wa.putObj (w.heap.size+1) (.loop {rec .ready none with state:= .busy})).heap[w.heap.size]?=some (.deferred (some [])):=(World.putObj_heap_other oM).trans hk';have hput:∀(A:World) (o':Obj),Keeps Fk A (A.putObj (w.heap.size+1) o'):=
    fun A o'=>⟨by simp only[World.putObj,Array.size_setIfInBounds];omega,fun k hk _=>World.putObj_heap_other (fun e=>hFk (by first|(rw[←e];exact hk)|(rw[e];exact hk)))⟩
   have hw2:Keeps Fk Wa (Wa.putObj (w.heap.size+1) (.loop {rec .ready none with state:= .busy})):=hput _ _;refine wpIn_mono (hbody pre x a' _ (hIp _ _ _ hia hlt) (hAp _ _ _ _ _ hax hlt) hlen (by simp only[World.putObj,Array.size_setIfInBounds];omega)) ?_;rintro e a3 W3 hp;cases e with
   |normal=>
    obtain⟨hk3,hkp3,hi3⟩:=hp;have hl3:=hk3.same _ _ oM hl2 rfl;have hd3:=hk3.same _ _ (Nat.le_refl _) hk2 rfl;have hlt3:w.heap.size+1<W3.heap.size:=(Array.getElem?_eq_some_iff.1 hl3).1;have hr:=run_endRound (P:=P) none hl3;rw[hrec] at hr;refine⟨_,_,hr,rfl,⟨hIp _ _ _ hi3 hlt3,?_,(World.putObj_heap_other oM).trans hd3⟩,?_⟩
    ·rw[hrec];exact World.putObj_heap_same hlt3
    ·exact(Keeps.of_below hea).trans ((hw2.trans hkp3).trans (hput _ _))
   |ret=>exact hp.elim
   |exit id=>exact hp.elim
   |goto t=>exact hp.elim
   |panic ch=>exact hp.elim
   |outgrown=>exact hp.elim
  ·rintro e W2 ⟨⟨v,rfl⟩,xs,hS,hi,hl,hk⟩;have hlt:w.heap.size+1<W2.heap.size:=(Array.getElem?_eq_some_iff.1 hl).1;exact⟨none,_,by have:=run_endLoop (P:=P) hl (by rw[hrec];simp);rw[hrec] at this;exact this,
    hdone xs _ hS (hIp _ _ _ hi hlt) (by simp only[World.putObj,Array.size_setIfInBounds];omega) ((World.putObj_heap_other oM).trans hk)⟩
theorem Qsz {α:Type} {ops:Array Oper} {rest:List Oper} {o:Oper} {a:Act} {Q:Exit→Act→World→Prop} {w:World} {R:Rd α} (g:Good R) (hgd:o.guard=none) (s x:Operand) (t:TypeId)
  (ho:o.op= .call {callee:= .builtin .append,args:=#[s,x],argTypes:=#[t,t]})
  (base:Nat) (e:TypeId) (i:TypeInfo) (z:Value) (sz bytes:Nat) (ht:P.underlying t=some (.slice e)) (hi:P.info? e=some i) (hz:i.zero=some z)
  (hsize:i.size=sz) (hby:i.bytes=bytes) (hzs:z.cells.size=sz) (hsz:0<sz)
  {G H:Nat→Prop} (v:Value) (l:List α) (hs:a.eval s=v) (hown:OSl R sz e base G w v l)
  (b off c:Nat) (cs:List Value) (y:α) (hx:a.eval x= .slice (some ⟨b,off,none⟩) 1 c) (hcs:cs.length=sz) (hcell:w.rangeAt b off cs) (h1:∀u∈cs,u.oneCell'=true)
  (hR:R H w cs y) (hG:∀k,H k→k<w.heap.size→G k∧some k≠v.ownBlock)
  (h63:l.length+1≤maxLen) (hbytes:(l.length+1) * bytes≤140737488355328) (hbase:base≤w.heap.size)
  (h:∀v' w',OSl R sz e base G w' v' (l++[y])→w.grownBy w' v.ownBlock→(v'.ownBlock=v.ownBlock∨v'.ownBlock=some w.heap.size)→wpListIn F n P ops Q rest (a.put o.dst v') w'):wpListIn F n P ops Q (o::rest) a w:=by
 obtain⟨xs,o1,o2⟩:=hown;refine wpListIn_plain hgd fun _ hK=> ?_
 obtain⟨v',w',hrun,h2,h3,h4⟩:=Qe0 (P:=P) w base t o.type e i z sz bytes ht hi hz hsize hby hzs hsz v l.length xs o1 w.heap.size (some ⟨b,off,none⟩) 1 c cs
  ⟨oM,fun _=>⟨_,rfl,by
   have:0<cs.length:=oM;exact World.block_lt_of_cell? _ _ (hcell 0 cs[0] (List.getElem?_eq_getElem this)),fun j u hu=>by rw[Addr.add_mid];exact hcell j u hu⟩⟩ h1 h63 hbytes hbase
 unfold Oper.wpIn;refine⟨?_,?_⟩
 ·simp[Oper.about,ho,resolve,Target.leads,Sem.run_pure]
 ·rw[Oper.semAt_plain F _ _ (by rw[ho];intro c hc';cases hc')];simp[execOp,ho,resolve,invoke,builtin,hs,hx,hrun,Result.andThen];exact hK _ _ (h v' w' (Qxw g o1 o2 hR hcs hG h2 h3 h4) h3 h4)
theorem Qwi {α:Type} {R:Rd α} {sz e base:Nat} {G:Nat→Prop} {w:World} {v:Value} {l:List α} (h:OSl R sz e base G w v l):∀(j:Nat) (o:Obj),v.ownBlock=some j→w.heap[j]?=some o→o.isCells=true:=by
 obtain⟨xs,h1,_⟩:=h;intro j o hj ho;rcases h1.2 with⟨rfl,_⟩|⟨g,cap,cur,rfl,_,hgb,_⟩
 ·simp[Value.ownBlock] at hj
 ·have:g=j:=by simpa [Value.ownBlock] using hj
  subst this;rw[hgb] at ho;cases ho;rfl
theorem Qy3 {a w:World} (h:Ext a w) {k:Nat} (hk:a.heap.size≤k) (o:Obj):Ext a (w.putObj k o):=by
 have h':Below a.heap.size a w:=h;exact⟨h'.os,h'.tape,h'.output,by simp only[World.putObj,Array.size_setIfInBounds];exact h'.size,fun j hj=>(World.putObj_heap_other oM).trans (h'.block j hj)⟩
theorem Qif {G:Nat→Prop} {w:World} {k:Nat} (hk:¬G k) (o:Obj):Keeps G w (w.putObj k o):=
 ⟨by simp only[World.putObj,Array.size_setIfInBounds];omega,fun j hj _=>World.putObj_heap_other (fun e=>hk (by first|(rw[←e];exact hj)|(rw[e];exact hj)))⟩
end Cp
