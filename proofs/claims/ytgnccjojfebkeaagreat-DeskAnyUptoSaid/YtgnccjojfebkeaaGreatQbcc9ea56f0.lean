/- DeskAny: in whatever order notes come, what is seen and the text are the same at last; and what comes twice is done once. Condition: what comes in is of bulk at most 1048576. -/
import Derived.Test.YtgnccjojfebkeaaGreatQedcd6477bb
import Derived.Test.YtgnccjojfebkeaaGreatQb8dd5c4cda
import Derived.Test.YtgnccjojfebkeaaGreatQ17528aba9c
import Derived.Below
import Derived.Carry
import Derived.SizedLaws
import Derived.JoinedCond
import Derived.Deep.CondSized
import Derived.Test.YtgnccjojfebkeaaGreatQf8a196d56c
import Derived.Test.YtgnccjojfebkeaaGreatQ32d737f019
import Derived.Test.YtgnccjojfebkeaaGreatQ1fe29ed50b
import Derived.Test.YtgnccjojfebkeaaGreatQ982015a309
set_option linter.unusedVariables false
set_option linter.unusedSimpArgs false
set_option maxRecDepth 100000
namespace Go.Proofs.YtgnccjojfebkeaaGreat
open Go Go.RowKit Go.ChangeShapes Go.WideShapes Go.ChangeAt Cp
open Go.ChangeMaps (open_string shut_string)
namespace DeskAnyLaw
theorem own:ownKnob Tryz.prog.godebug=none:=kR
theorem laidOut:laidOutB Tryz.prog=true:=kR
theorem lifted (os:Os) (started:os.Started) (H:Type) (enc:TypeId×Value→H) (F:Stop.Interp):
  ReturnsInHanded {} Tryz.checked os 8 .any ((Rows.OpenSpec.upto Rows.deskAnySpec).pre6 enc Tryz.prog Tryz.f8 Rows.deskAnyUptoRow.domain false) (((Rows.OpenSpec.upto Rows.deskAnySpec).at F).post enc Tryz.prog Tryz.f8 false true false false):=by
 refine returnsInHanded_of_cond_sized (C:=Tryz.checked) (s:=Rows.OpenSpec.upto Rows.deskAnySpec) (k:=Rows.uptoSmall) rfl own started kR Tryz.func8
  (OpenSpec.witness (enc:=enc) (C:=Tryz.checked) (s:=Rows.OpenSpec.upto Rows.deskAnySpec) (k:=Rows.uptoSmall) rfl false ⟨#[],#[.agg #[.int .i64 0,.slice none 0 0,.slice none 0 0,.slice none 0 0,.slice none 0 0,.int .i64 0,.slice none 0 0],.slice none 0 0,.slice none 0 0],[]⟩ 8 kR kR kR
   (x:=([.agg [.lit (.int .i64 0),.agg [.nil,.nil],.nil,.nil,.lit (.int .i64 0),.nil],.nil,.nil],[],[])) kR rfl kR) ?_
 intro W base args ds gs before hval0 hW hcnd hk0 hsz0 _;have hval:∀(j:Nat) t v,Tryz.f8.params[j]?=some t→args[j]?=some v→Value.okWide Tryz.prog W .any base t v:=hval0;have hW':=hW;obtain⟨p,q,hA0,hV,rfl,hfz,hnd⟩:=hW;have hA:DataW.TrodAll enc Tryz.prog W 0 (fun _=>true) true Tryz.f8.params.toList args.toList ds p:=hA0;have hsz:(DataW.weightsEach Tryz.prog (Tryz.f8.params.toList++[]) (ds++gs)).all (· ≤reachBytes)=true:=hsz0;rw[Tryz.params8] at hsz;rw[Tryz.params8] at hA hval;obtain⟨v0,vs0,d0,ds0,p0,q0,hargs,rfl,rfl,h0,r0⟩:=trodAll_cons hA;obtain⟨v1,vs1,d1,ds1,p1,q1,rfl,rfl,rfl,h1,r1⟩:=trodAll_cons r0;obtain⟨v2,vs2,d2,ds2,p2,q2,rfl,rfl,rfl,h2,r2⟩:=trodAll_cons r1;obtain⟨rfl,rfl,rfl⟩:=trodAll_nil r2;obtain rfl:args=#[v0,v1,v2]:=by cases args;simp_all
 obtain⟨rfl,rfl⟩:=trodVars_none hV;have hsm:=Qyc hsz;have k0:=h0;have lt0:∀x∈p0,x.block<W.heap.size:=by obtain⟨m,hm⟩:=k0;exact DataW.trod_lt m _ _ _ hm
 obtain⟨cs0,x0,rfl,f0⟩:=Q9p (hval 0 45 v0 rfl rfl) (hsm 0 _ _ rfl rfl) h0;have k1:=h1;have lt1:∀x∈p1,x.block<W.heap.size:=by obtain⟨m,hm⟩:=k1;exact DataW.trod_lt m _ _ _ hm
 obtain⟨x1,f1⟩:=Vfd (hval 1 23 v1 rfl rfl) (hsm 1 _ _ rfl rfl) h1;have k2:=h2;have lt2:∀x∈p2,x.block<W.heap.size:=by obtain⟨m,hm⟩:=k2;exact DataW.trod_lt m _ _ _ hm
 obtain⟨x2,f2⟩:=Vfl (hval 2 43 v2 rfl rfl) h2;have n1:=Vfj Tryz.underlying23 k1 f1 (ds:=_) sI hk0;have n2:=Vfj Tryz.underlying43 k2 f2 (ds:=_) sI hk0;clear hA0 hval0;refine(Vem f0 f1 f2 n1 n2).mono fun e W' ⟨he,hx⟩=> ?_
 subst he;have bel:=hx.below;exact⟨_,rfl,_,_,_,[],_,[],hW',trodAll_mk1 (shut_bool Tryz.underlying4 _),(trodAll_cons_mk (Below.trod laidOut kR (of_decide_eq_true kR) k0 bel lt0) (trodAll_cons_mk (Below.trod laidOut kR (of_decide_eq_true kR) k1 bel lt1) (trodAll_cons_mk (Below.trod laidOut kR (of_decide_eq_true kR) k2 bel lt2) trodAll_mk0))),rfl,bel.frame _,fun h=>by cases h⟩
set_option maxRecDepth 100000
theorem c0:(Rows.deskAnyUptoRow.wf (OpenSpec.ofChange (Rows.OpenSpec.upto Rows.deskAnySpec).bare))=true:=kR
theorem c1:(laidOutB Tryz.pinned.checked.prog)=true:=kR
theorem c2:(mapsRowed Tryz.pinned.checked.prog)=true:=kR
theorem c3:(Tryz.f8.params.all (Tryz.pinned.checked.prog.readableRec ·))=true:=kR
theorem c4:(namedTie Tryz.pinned.checked.prog Rows.deskAnyUptoRow.named (Rows.OpenSpec.upto Rows.deskAnySpec).bare.vars)=true:=kR
theorem c5:((Rows.deskAnyUptoRow.stops==[]))=true:=kR
theorem c6:((Tryz.pinned.checked.prog.stops==[]))=true:=kR
theorem c7:((Rows.deskAnyUptoRow.knobs==[]))=true:=kR
theorem c8:((Tryz.pinned.checked.prog.stopKnobs==[]))=true:=kR
theorem c9:((Rows.deskAnyUptoRow.inPlace==Tryz.pinned.checked.prog.inPlace 8))=true:=kR
theorem c10:((Rows.deskAnyUptoRow.unfollowed==Tryz.pinned.checked.prog.unfollowed 8))=true:=kR
theorem c11:((Rows.deskAnyUptoRow.recurses==Tryz.pinned.checked.prog.recurses 8))=true:=kR
theorem c12:((Rows.deskAnyUptoRow.named==Tryz.pinned.checked.prog.varsNamed 8))=true:=kR
theorem c13:((Rows.deskAnyUptoRow.maps==(Tryz.f8.params.toList++(Rows.OpenSpec.upto Rows.deskAnySpec).bare.plain.varTypes Tryz.pinned.checked.prog).any (Tryz.pinned.checked.prog.mapsRec ·)))=true:=kR
theorem c14:((Rows.deskAnyUptoRow.ifaces==(Tryz.f8.params.toList++(Rows.OpenSpec.upto Rows.deskAnySpec).bare.plain.varTypes Tryz.pinned.checked.prog).any (Tryz.pinned.checked.prog.ifacesRec ·)))=true:=kR
theorem c15:((Rows.deskAnyUptoRow.mapsOut==Tryz.pinned.checked.prog.mapsAmong Tryz.f8.resultTypes.toList))=true:=kR
theorem c16:((Rows.deskAnyUptoRow.loops==(Tryz.f8.params.toList++(Rows.OpenSpec.upto Rows.deskAnySpec).bare.plain.varTypes Tryz.pinned.checked.prog).any (Tryz.pinned.checked.prog.loopsFrom ·)))=true:=kR
theorem c17:((Rows.deskAnyUptoRow.wideKeys==(Tryz.f8.params.toList++(Rows.OpenSpec.upto Rows.deskAnySpec).bare.plain.varTypes Tryz.pinned.checked.prog++Tryz.f8.resultTypes.toList).any (Tryz.pinned.checked.prog.wideKeysFrom ·)))=true:=kR
theorem c18:((Rows.OpenSpec.upto Rows.deskAnySpec).bare.vars.all (Tryz.pinned.checked.prog.varReadable ·))=true:=kR
theorem c19:(Tryz.f8.resultTypes.all (fun t=>Tryz.pinned.checked.prog.readableRec t && decide (t<Tryz.pinned.checked.prog.types.size)))=true:=kR
theorem c20:((Rows.deskAnyUptoRow.ifacesOut==Tryz.f8.resultTypes.toList.any (Tryz.pinned.checked.prog.ifacesRec ·)))=true:=kR
theorem c21:((Rows.deskAnyUptoRow.loopsOut==Tryz.f8.resultTypes.toList.any (Tryz.pinned.checked.prog.loopsFrom ·)))=true:=kR
theorem c22:((Rows.deskAnyUptoRow.plainKeys==Tryz.pinned.checked.prog.plainKeys))=true:=kR
theorem c23:(Rows.deskAnyUptoRow.shortTexts.isNone)=true:=kR
theorem c24:(Tryz.pinned.checked.prog.stopsHeard)=true:=kR
theorem c25:(Tryz.pinned.checked.prog.mayEnter)=true:=kR
theorem c26:((Rows.deskAnyUptoRow.lifted==Tryz.pinned.checked.prog.liftsFinal))=true:=kR
theorem c27:((Tryz.pinned.checked.prog.make==some Rows.deskAnyUptoRow.make))=true:=kR
theorem c28:((Rows.deskAnyUptoRow.kinds==(if Rows.deskAnyUptoRow.domain.isEmpty then [] else Tryz.f8.params.toList.map fun t=>match Tryz.pinned.checked.prog.underlying t with|some (.int k)=>some k|_=>none)))=true:=kR
theorem c29:((Rows.deskAnyUptoRow.pinned==Rows.deskAnyUptoRow.pinnedBy))=true:=kR
theorem c30:((Rows.deskAnyUptoRow.veiled==(Tryz.f8.params.toList++(Rows.OpenSpec.upto Rows.deskAnySpec).bare.plain.varTypes Tryz.pinned.checked.prog++Tryz.f8.resultTypes.toList).any (Tryz.pinned.checked.prog.veiledRec ·)))=true:=kR
theorem c31:(Rows.deskAnyUptoRow.veiledFits Tryz.pinned.checked.prog Tryz.f8.params.toList (Tryz.f8.params.toList++(Rows.OpenSpec.upto Rows.deskAnySpec).bare.plain.varTypes Tryz.pinned.checked.prog++Tryz.f8.resultTypes.toList))=true:=kR
theorem closed:joinedFacts Tryz.pinned.checked.prog 8 Tryz.f8 (Rows.OpenSpec.upto Rows.deskAnySpec).bare Rows.deskAnyUptoRow=true:=by
 unfold joinedFacts;simp only[Bool.and_eq_true];exact⟨⟨⟨⟨⟨⟨⟨⟨⟨⟨⟨⟨⟨⟨⟨⟨⟨⟨⟨⟨⟨⟨⟨⟨⟨⟨⟨⟨⟨⟨⟨c0,c1⟩,c2⟩,c3⟩,c4⟩,c5⟩,c6⟩,c7⟩,c8⟩,c9⟩,c10⟩,c11⟩,c12⟩,c13⟩,c14⟩,c15⟩,c16⟩,c17⟩,c18⟩,c19⟩,c20⟩,c21⟩,c22⟩,c23⟩,c24⟩,c25⟩,c26⟩,c27⟩,c28⟩,c29⟩,c30⟩,c31⟩
theorem over:Rows.deskAnyUptoRow.holds Tryz.pinned (Rows.OpenSpec.upto Rows.deskAnySpec):=
 OpenClaim.holds_of_cond 8 Tryz.f8 rfl rfl rfl rfl rfl rfl rfl ⟨rfl,rfl,rfl,rfl,rfl⟩ rfl rfl rfl rfl rfl kR Tryz.func8 closed
  (of_decide_eq_true kR) (by unfold Func.isWrapper;rw[if_neg (of_decide_eq_false kR)];exact⟨rfl,rfl⟩)
  (fun os started H enc _ F=>lifted os started H enc F)
end DeskAnyLaw
theorem deskAnyUpto_holds:Rows.DeskAnyUptoSaid:=DeskAnyLaw.over
end Go.Proofs.YtgnccjojfebkeaaGreat
