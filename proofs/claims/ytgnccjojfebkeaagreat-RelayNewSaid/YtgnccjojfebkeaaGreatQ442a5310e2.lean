/- RelayNew: what is posted a new desk has, pulled from the start in whatever parts. No condition. -/
import Derived.Test.YtgnccjojfebkeaaGreatQa25677e44b
import Derived.Test.YtgnccjojfebkeaaGreatQ17528aba9c
import Derived.Test.YtgnccjojfebkeaaGreatQ5e9610cfeb
import Derived.Below
import Derived.Carry
import Derived.SizedLaws
import Derived.Test.YtgnccjojfebkeaaGreatQ3b870ebffa
import Derived.Test.YtgnccjojfebkeaaGreatQ9fee5ace90
import Derived.Test.YtgnccjojfebkeaaGreatQ5ffe96eb4e
import Derived.Test.YtgnccjojfebkeaaGreatQ44220a1dbb
import Derived.Test.YtgnccjojfebkeaaGreatQ067801634e
import Derived.Test.YtgnccjojfebkeaaGreatQ1396365854
import Derived.Test.YtgnccjojfebkeaaGreatQe2c3620f18
set_option linter.unusedVariables false
set_option linter.unusedSimpArgs false
set_option maxRecDepth 100000
namespace Go.Proofs.YtgnccjojfebkeaaGreat
open Go Go.RowKit Go.ChangeShapes Go.WideShapes Go.ChangeAt Cp
open Go.ChangeMaps (open_string shut_string)
namespace RelayNewLaw
theorem own:ownKnob Tryz.prog.godebug=none:=kR
theorem laidOut:laidOutB Tryz.prog=true:=kR
theorem lifted (os:Os) (started:os.Started) (H:Type) (enc:TypeId×Value→H):
  ReturnsInHanded {} Tryz.checked os 11 .any (Rows.relayNewSpec.pre6 enc Tryz.prog Tryz.f11 Rows.relayNewRow.domain false) (Rows.relayNewSpec.post enc Tryz.prog Tryz.f11 false true false false):=by
 refine returnsInHanded_of_change_sized (C:=Tryz.checked) own started kR Tryz.func11
  (ChangeSpec.witness6 (enc:=enc) (C:=Tryz.checked) false ⟨#[],#[.slice none 0 0,.int .i64 0],[]⟩ 8 kR kR kR kR) ?_
 intro W base args ds gs before hval0 hW hcnd hsz0 _;have hval:∀(j:Nat) t v,Tryz.f11.params[j]?=some t→args[j]?=some v→Value.okWide Tryz.prog W .any base t v:=hval0;have hW':=hW;obtain⟨p,q,hA0,hV,rfl,hfz,hnd⟩:=hW;have hA:DataW.TrodAll enc Tryz.prog W 0 (fun _=>true) true Tryz.f11.params.toList args.toList ds p:=hA0;have hsz:(DataW.weightsEach Tryz.prog (Tryz.f11.params.toList++[]) (ds++gs)).all (· ≤reachBytes)=true:=hsz0;rw[Tryz.params11] at hsz;rw[Tryz.params11] at hA hval;obtain⟨v0,vs0,d0,ds0,p0,q0,hargs,rfl,rfl,h0,r0⟩:=trodAll_cons hA;obtain⟨v1,vs1,d1,ds1,p1,q1,rfl,rfl,rfl,h1,r1⟩:=trodAll_cons r0;obtain⟨rfl,rfl,rfl⟩:=trodAll_nil r1;obtain rfl:args=#[v0,v1]:=by cases args;simp_all
 obtain⟨rfl,rfl⟩:=trodVars_none hV;have hsm:=Qyc hsz;have k0:=h0;have lt0:∀x∈p0,x.block<W.heap.size:=by obtain⟨m,hm⟩:=k0;exact DataW.trod_lt m _ _ _ hm
 obtain⟨x0,f0⟩:=Vgb (hval 0 23 v0 rfl rfl) (hsm 0 _ _ rfl rfl) h0;have k1:=h1;have lt1:∀x∈p1,x.block<W.heap.size:=by obtain⟨m,hm⟩:=k1;exact DataW.trod_lt m _ _ _ hm
 obtain⟨x1,rfl,f1⟩:=Vbq (hval 1 3 v1 rfl rfl) h1;clear hA0 hval0;refine(Vfb f0 f1).mono fun e W' ⟨he,hx⟩=> ?_
 subst he;have bel:=hx.below;exact⟨_,rfl,_,_,_,[],_,[],hW',trodAll_mk1 (shut_bool Tryz.underlying4 _),(trodAll_cons_mk (Below.trod laidOut kR (of_decide_eq_true kR) k0 bel lt0) (trodAll_cons_mk (Below.trod laidOut kR (of_decide_eq_true kR) k1 bel lt1) trodAll_mk0)),rfl,bel.frame _,fun h=>by cases h⟩
set_option maxRecDepth 100000
theorem c0:(Rows.relayNewRow.wf (OpenSpec.ofChange Rows.relayNewSpec))=true:=kR
theorem c1:(laidOutB Tryz.pinned.checked.prog)=true:=kR
theorem c2:(mapsRowed Tryz.pinned.checked.prog)=true:=kR
theorem c3:(Tryz.f11.params.all (Tryz.pinned.checked.prog.readableRec ·))=true:=kR
theorem c4:(namedTie Tryz.pinned.checked.prog Rows.relayNewRow.named Rows.relayNewSpec.vars)=true:=kR
theorem c5:((Rows.relayNewRow.stops==[]))=true:=kR
theorem c6:((Tryz.pinned.checked.prog.stops==[]))=true:=kR
theorem c7:((Rows.relayNewRow.knobs==[]))=true:=kR
theorem c8:((Tryz.pinned.checked.prog.stopKnobs==[]))=true:=kR
theorem c9:((Rows.relayNewRow.inPlace==Tryz.pinned.checked.prog.inPlace 11))=true:=kR
theorem c10:((Rows.relayNewRow.unfollowed==Tryz.pinned.checked.prog.unfollowed 11))=true:=kR
theorem c11:((Rows.relayNewRow.recurses==Tryz.pinned.checked.prog.recurses 11))=true:=kR
theorem c12:((Rows.relayNewRow.named==Tryz.pinned.checked.prog.varsNamed 11))=true:=kR
theorem c13:((Rows.relayNewRow.maps==(Tryz.f11.params.toList++Rows.relayNewSpec.plain.varTypes Tryz.pinned.checked.prog).any (Tryz.pinned.checked.prog.mapsRec ·)))=true:=kR
theorem c14:((Rows.relayNewRow.ifaces==(Tryz.f11.params.toList++Rows.relayNewSpec.plain.varTypes Tryz.pinned.checked.prog).any (Tryz.pinned.checked.prog.ifacesRec ·)))=true:=kR
theorem c15:((Rows.relayNewRow.mapsOut==Tryz.pinned.checked.prog.mapsAmong Tryz.f11.resultTypes.toList))=true:=kR
theorem c16:((Rows.relayNewRow.loops==(Tryz.f11.params.toList++Rows.relayNewSpec.plain.varTypes Tryz.pinned.checked.prog).any (Tryz.pinned.checked.prog.loopsFrom ·)))=true:=kR
theorem c17:((Rows.relayNewRow.wideKeys==(Tryz.f11.params.toList++Rows.relayNewSpec.plain.varTypes Tryz.pinned.checked.prog++Tryz.f11.resultTypes.toList).any (Tryz.pinned.checked.prog.wideKeysFrom ·)))=true:=kR
theorem c18:(Rows.relayNewSpec.vars.all (Tryz.pinned.checked.prog.varReadable ·))=true:=kR
theorem c19:(Tryz.f11.resultTypes.all (fun t=>Tryz.pinned.checked.prog.readableRec t && decide (t<Tryz.pinned.checked.prog.types.size)))=true:=kR
theorem c20:((Rows.relayNewRow.ifacesOut==Tryz.f11.resultTypes.toList.any (Tryz.pinned.checked.prog.ifacesRec ·)))=true:=kR
theorem c21:((Rows.relayNewRow.loopsOut==Tryz.f11.resultTypes.toList.any (Tryz.pinned.checked.prog.loopsFrom ·)))=true:=kR
theorem c22:((Rows.relayNewRow.plainKeys==Tryz.pinned.checked.prog.plainKeys))=true:=kR
theorem c23:(Rows.relayNewRow.shortTexts.isNone)=true:=kR
theorem c24:(Tryz.pinned.checked.prog.stopsHeard)=true:=kR
theorem c25:(Tryz.pinned.checked.prog.mayEnter)=true:=kR
theorem c26:((Rows.relayNewRow.lifted==Tryz.pinned.checked.prog.liftsFinal))=true:=kR
theorem c27:((Tryz.pinned.checked.prog.make==some Rows.relayNewRow.make))=true:=kR
theorem c28:((Rows.relayNewRow.kinds==(if Rows.relayNewRow.domain.isEmpty then [] else Tryz.f11.params.toList.map fun t=>match Tryz.pinned.checked.prog.underlying t with|some (.int k)=>some k|_=>none)))=true:=kR
theorem c29:((Rows.relayNewRow.pinned==Rows.relayNewRow.pinnedBy))=true:=kR
theorem c30:((Rows.relayNewRow.veiled==(Tryz.f11.params.toList++Rows.relayNewSpec.plain.varTypes Tryz.pinned.checked.prog++Tryz.f11.resultTypes.toList).any (Tryz.pinned.checked.prog.veiledRec ·)))=true:=kR
theorem c31:(Rows.relayNewRow.veiledFits Tryz.pinned.checked.prog Tryz.f11.params.toList (Tryz.f11.params.toList++Rows.relayNewSpec.plain.varTypes Tryz.pinned.checked.prog++Tryz.f11.resultTypes.toList))=true:=kR
theorem closed:joinedFacts Tryz.pinned.checked.prog 11 Tryz.f11 Rows.relayNewSpec Rows.relayNewRow=true:=by
 unfold joinedFacts;simp only[Bool.and_eq_true];exact⟨⟨⟨⟨⟨⟨⟨⟨⟨⟨⟨⟨⟨⟨⟨⟨⟨⟨⟨⟨⟨⟨⟨⟨⟨⟨⟨⟨⟨⟨⟨c0,c1⟩,c2⟩,c3⟩,c4⟩,c5⟩,c6⟩,c7⟩,c8⟩,c9⟩,c10⟩,c11⟩,c12⟩,c13⟩,c14⟩,c15⟩,c16⟩,c17⟩,c18⟩,c19⟩,c20⟩,c21⟩,c22⟩,c23⟩,c24⟩,c25⟩,c26⟩,c27⟩,c28⟩,c29⟩,c30⟩,c31⟩
theorem over:Rows.relayNewRow.holds Tryz.pinned (OpenSpec.ofChange Rows.relayNewSpec):=
 OpenClaim.holds_of_wide 11 Tryz.f11 rfl rfl rfl rfl rfl rfl rfl ⟨rfl,rfl,rfl,rfl,rfl⟩ rfl rfl rfl rfl rfl kR Tryz.func11 closed
  (of_decide_eq_true kR) (by unfold Func.isWrapper;rw[if_neg (of_decide_eq_false kR)];exact⟨rfl,rfl⟩)
  (fun os started H enc _=>lifted os started H enc)
end RelayNewLaw
theorem relayNew_holds:Rows.RelayNewSaid:=RelayNewLaw.over
end Go.Proofs.YtgnccjojfebkeaaGreat
