/- DeskGrows: what was seen, and what is gone, stays so; what waited, and waits no more, was seen; what is out stays. No condition. -/
import Derived.Test.YtgnccjojfebkeaaGreatQ7cbb653d2f
import Derived.Test.YtgnccjojfebkeaaGreatQ17528aba9c
import Derived.Test.YtgnccjojfebkeaaGreatQdab4a04927
import Derived.Below
import Derived.Carry
import Derived.SizedLaws
import Derived.Test.YtgnccjojfebkeaaGreatQdd3cfccc00
import Derived.Test.YtgnccjojfebkeaaGreatQe1b3bbb0d1
import Derived.Test.YtgnccjojfebkeaaGreatQb3a614442e
import Derived.Test.YtgnccjojfebkeaaGreatQdb962effe0
import Derived.Test.YtgnccjojfebkeaaGreatQb7e6ad5cd9
import Derived.Test.YtgnccjojfebkeaaGreatQb8af4df662
import Derived.Test.YtgnccjojfebkeaaGreatQbba74dd308
set_option linter.unusedVariables false
set_option linter.unusedSimpArgs false
set_option maxRecDepth 100000
namespace Go.Proofs.YtgnccjojfebkeaaGreat
open Go Go.RowKit Go.ChangeShapes Go.WideShapes Go.ChangeAt Cp
open Go.ChangeMaps (open_string shut_string)
namespace DeskGrowsLaw
theorem own:ownKnob Tryz.prog.godebug=none:=kR
theorem laidOut:laidOutB Tryz.prog=true:=kR
theorem lifted (os:Os) (started:os.Started) (H:Type) (enc:TypeId×Value→H):
  ReturnsInHanded {} Tryz.checked os 10 .any (Rows.deskGrowsSpec.pre6 enc Tryz.prog Tryz.f10 Rows.deskGrowsRow.domain false) (Rows.deskGrowsSpec.post enc Tryz.prog Tryz.f10 false true false false):=by
 refine returnsInHanded_of_change_sized (C:=Tryz.checked) own started kR Tryz.func10
  (ChangeSpec.witness6 (enc:=enc) (C:=Tryz.checked) false ⟨#[],#[.agg #[.int .i64 0,.slice none 0 0,.slice none 0 0,.slice none 0 0,.slice none 0 0,.int .i64 0,.slice none 0 0],.agg #[.int .i64 0,.int .i64 0,.slice none 0 0,.slice none 0 0]],[]⟩ 8 kR kR kR kR) ?_
 intro W base args ds gs before hval0 hW hcnd hsz0 _;have hval:∀(j:Nat) t v,Tryz.f10.params[j]?=some t→args[j]?=some v→Value.okWide Tryz.prog W .any base t v:=hval0;have hW':=hW;obtain⟨p,q,hA0,hV,rfl,hfz,hnd⟩:=hW;have hA:DataW.TrodAll enc Tryz.prog W 0 (fun _=>true) true Tryz.f10.params.toList args.toList ds p:=hA0;have hsz:(DataW.weightsEach Tryz.prog (Tryz.f10.params.toList++[]) (ds++gs)).all (· ≤reachBytes)=true:=hsz0;rw[Tryz.params10] at hsz;rw[Tryz.params10] at hA hval;obtain⟨v0,vs0,d0,ds0,p0,q0,hargs,rfl,rfl,h0,r0⟩:=trodAll_cons hA;obtain⟨v1,vs1,d1,ds1,p1,q1,rfl,rfl,rfl,h1,r1⟩:=trodAll_cons r0;obtain⟨rfl,rfl,rfl⟩:=trodAll_nil r1;obtain rfl:args=#[v0,v1]:=by cases args;simp_all
 obtain⟨rfl,rfl⟩:=trodVars_none hV;have hsm:=Qyc hsz;have k0:=h0;have lt0:∀x∈p0,x.block<W.heap.size:=by obtain⟨m,hm⟩:=k0;exact DataW.trod_lt m _ _ _ hm
 obtain⟨cs0,x0,rfl,f0⟩:=Q9p (hval 0 45 v0 rfl rfl) (hsm 0 _ _ rfl rfl) h0;have k1:=h1;have lt1:∀x∈p1,x.block<W.heap.size:=by obtain⟨m,hm⟩:=k1;exact DataW.trod_lt m _ _ _ hm
 obtain⟨cs1,x1,rfl,f1⟩:=Vfi (hval 1 48 v1 rfl rfl) (hsm 1 _ _ rfl rfl) h1;clear hA0 hval0;refine(Vef f0 f1).mono fun e W' ⟨he,hx⟩=> ?_
 subst he;have bel:=hx.below;exact⟨_,rfl,_,_,_,[],_,[],hW',trodAll_mk1 (shut_bool Tryz.underlying4 _),(trodAll_cons_mk (Below.trod laidOut kR (of_decide_eq_true kR) k0 bel lt0) (trodAll_cons_mk (Below.trod laidOut kR (of_decide_eq_true kR) k1 bel lt1) trodAll_mk0)),rfl,bel.frame _,fun h=>by cases h⟩
set_option maxRecDepth 100000
theorem c0:(Rows.deskGrowsRow.wf (OpenSpec.ofChange Rows.deskGrowsSpec))=true:=kR
theorem c1:(laidOutB Tryz.pinned.checked.prog)=true:=kR
theorem c2:(mapsRowed Tryz.pinned.checked.prog)=true:=kR
theorem c3:(Tryz.f10.params.all (Tryz.pinned.checked.prog.readableRec ·))=true:=kR
theorem c4:(namedTie Tryz.pinned.checked.prog Rows.deskGrowsRow.named Rows.deskGrowsSpec.vars)=true:=kR
theorem c5:((Rows.deskGrowsRow.stops==[]))=true:=kR
theorem c6:((Tryz.pinned.checked.prog.stops==[]))=true:=kR
theorem c7:((Rows.deskGrowsRow.knobs==[]))=true:=kR
theorem c8:((Tryz.pinned.checked.prog.stopKnobs==[]))=true:=kR
theorem c9:((Rows.deskGrowsRow.inPlace==Tryz.pinned.checked.prog.inPlace 10))=true:=kR
theorem c10:((Rows.deskGrowsRow.unfollowed==Tryz.pinned.checked.prog.unfollowed 10))=true:=kR
theorem c11:((Rows.deskGrowsRow.recurses==Tryz.pinned.checked.prog.recurses 10))=true:=kR
theorem c12:((Rows.deskGrowsRow.named==Tryz.pinned.checked.prog.varsNamed 10))=true:=kR
theorem c13:((Rows.deskGrowsRow.maps==(Tryz.f10.params.toList++Rows.deskGrowsSpec.plain.varTypes Tryz.pinned.checked.prog).any (Tryz.pinned.checked.prog.mapsRec ·)))=true:=kR
theorem c14:((Rows.deskGrowsRow.ifaces==(Tryz.f10.params.toList++Rows.deskGrowsSpec.plain.varTypes Tryz.pinned.checked.prog).any (Tryz.pinned.checked.prog.ifacesRec ·)))=true:=kR
theorem c15:((Rows.deskGrowsRow.mapsOut==Tryz.pinned.checked.prog.mapsAmong Tryz.f10.resultTypes.toList))=true:=kR
theorem c16:((Rows.deskGrowsRow.loops==(Tryz.f10.params.toList++Rows.deskGrowsSpec.plain.varTypes Tryz.pinned.checked.prog).any (Tryz.pinned.checked.prog.loopsFrom ·)))=true:=kR
theorem c17:((Rows.deskGrowsRow.wideKeys==(Tryz.f10.params.toList++Rows.deskGrowsSpec.plain.varTypes Tryz.pinned.checked.prog++Tryz.f10.resultTypes.toList).any (Tryz.pinned.checked.prog.wideKeysFrom ·)))=true:=kR
theorem c18:(Rows.deskGrowsSpec.vars.all (Tryz.pinned.checked.prog.varReadable ·))=true:=kR
theorem c19:(Tryz.f10.resultTypes.all (fun t=>Tryz.pinned.checked.prog.readableRec t && decide (t<Tryz.pinned.checked.prog.types.size)))=true:=kR
theorem c20:((Rows.deskGrowsRow.ifacesOut==Tryz.f10.resultTypes.toList.any (Tryz.pinned.checked.prog.ifacesRec ·)))=true:=kR
theorem c21:((Rows.deskGrowsRow.loopsOut==Tryz.f10.resultTypes.toList.any (Tryz.pinned.checked.prog.loopsFrom ·)))=true:=kR
theorem c22:((Rows.deskGrowsRow.plainKeys==Tryz.pinned.checked.prog.plainKeys))=true:=kR
theorem c23:(Rows.deskGrowsRow.shortTexts.isNone)=true:=kR
theorem c24:(Tryz.pinned.checked.prog.stopsHeard)=true:=kR
theorem c25:(Tryz.pinned.checked.prog.mayEnter)=true:=kR
theorem c26:((Rows.deskGrowsRow.lifted==Tryz.pinned.checked.prog.liftsFinal))=true:=kR
theorem c27:((Tryz.pinned.checked.prog.make==some Rows.deskGrowsRow.make))=true:=kR
theorem c28:((Rows.deskGrowsRow.kinds==(if Rows.deskGrowsRow.domain.isEmpty then [] else Tryz.f10.params.toList.map fun t=>match Tryz.pinned.checked.prog.underlying t with|some (.int k)=>some k|_=>none)))=true:=kR
theorem c29:((Rows.deskGrowsRow.pinned==Rows.deskGrowsRow.pinnedBy))=true:=kR
theorem c30:((Rows.deskGrowsRow.veiled==(Tryz.f10.params.toList++Rows.deskGrowsSpec.plain.varTypes Tryz.pinned.checked.prog++Tryz.f10.resultTypes.toList).any (Tryz.pinned.checked.prog.veiledRec ·)))=true:=kR
theorem c31:(Rows.deskGrowsRow.veiledFits Tryz.pinned.checked.prog Tryz.f10.params.toList (Tryz.f10.params.toList++Rows.deskGrowsSpec.plain.varTypes Tryz.pinned.checked.prog++Tryz.f10.resultTypes.toList))=true:=kR
theorem closed:joinedFacts Tryz.pinned.checked.prog 10 Tryz.f10 Rows.deskGrowsSpec Rows.deskGrowsRow=true:=by
 unfold joinedFacts;simp only[Bool.and_eq_true];exact⟨⟨⟨⟨⟨⟨⟨⟨⟨⟨⟨⟨⟨⟨⟨⟨⟨⟨⟨⟨⟨⟨⟨⟨⟨⟨⟨⟨⟨⟨⟨c0,c1⟩,c2⟩,c3⟩,c4⟩,c5⟩,c6⟩,c7⟩,c8⟩,c9⟩,c10⟩,c11⟩,c12⟩,c13⟩,c14⟩,c15⟩,c16⟩,c17⟩,c18⟩,c19⟩,c20⟩,c21⟩,c22⟩,c23⟩,c24⟩,c25⟩,c26⟩,c27⟩,c28⟩,c29⟩,c30⟩,c31⟩
theorem over:Rows.deskGrowsRow.holds Tryz.pinned (OpenSpec.ofChange Rows.deskGrowsSpec):=
 OpenClaim.holds_of_wide 10 Tryz.f10 rfl rfl rfl rfl rfl rfl rfl ⟨rfl,rfl,rfl,rfl,rfl⟩ rfl rfl rfl rfl rfl kR Tryz.func10 closed
  (of_decide_eq_true kR) (by unfold Func.isWrapper;rw[if_neg (of_decide_eq_false kR)];exact⟨rfl,rfl⟩)
  (fun os started H enc _=>lifted os started H enc)
end DeskGrowsLaw
theorem deskGrows_holds:Rows.DeskGrowsSaid:=DeskGrowsLaw.over
end Go.Proofs.YtgnccjojfebkeaaGreat
