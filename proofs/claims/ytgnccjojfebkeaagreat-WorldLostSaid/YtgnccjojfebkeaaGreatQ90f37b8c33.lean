/- WorldLost: what is lost and done again is done once: a send that is lost, and then is not, is one; a pull that is lost is none. No condition. -/
import Derived.Test.YtgnccjojfebkeaaGreatQ952f851319
import Derived.Test.YtgnccjojfebkeaaGreatQ17528aba9c
import Derived.Test.YtgnccjojfebkeaaGreatQf4050e477e
import Derived.Below
import Derived.Carry
import Derived.SizedLaws
import Derived.Test.YtgnccjojfebkeaaGreatQ8a2ad513a3
import Derived.Test.YtgnccjojfebkeaaGreatQecc479509e
import Derived.Test.YtgnccjojfebkeaaGreatQ681ae46c05
import Derived.Test.YtgnccjojfebkeaaGreatQ6a1fd50612
import Derived.Test.YtgnccjojfebkeaaGreatQ8947f8eb7f
import Derived.Test.YtgnccjojfebkeaaGreatQc8663ec002
set_option linter.unusedVariables false
set_option linter.unusedSimpArgs false
set_option maxRecDepth 100000
namespace Go.Proofs.YtgnccjojfebkeaaGreat
open Go Go.RowKit Go.ChangeShapes Go.WideShapes Go.ChangeAt Cp
open Go.ChangeMaps (open_string shut_string)
namespace WorldLostLaw
theorem own:ownKnob Tryz.prog.godebug=none:=kR
theorem laidOut:laidOutB Tryz.prog=true:=kR
theorem lifted (os:Os) (started:os.Started) (H:Type) (enc:TypeId×Value→H):
  ReturnsInHanded {} Tryz.checked os 14 .any (Rows.worldLostSpec.pre6 enc Tryz.prog Tryz.f14 Rows.worldLostRow.domain false) (Rows.worldLostSpec.post enc Tryz.prog Tryz.f14 false true false false):=by
 refine returnsInHanded_of_change_sized (C:=Tryz.checked) own started kR Tryz.func14
  (ChangeSpec.witness6 (enc:=enc) (C:=Tryz.checked) false ⟨#[],#[.agg #[.slice none 0 0,.slice none 0 0],.int .i64 0,.int .i64 0],[]⟩ 8 kR kR kR kR) ?_
 intro W base args ds gs before hval0 hW hcnd hsz0 _;have hval:∀(j:Nat) t v,Tryz.f14.params[j]?=some t→args[j]?=some v→Value.okWide Tryz.prog W .any base t v:=hval0;have hW':=hW;obtain⟨p,q,hA0,hV,rfl,hfz,hnd⟩:=hW;have hA:DataW.TrodAll enc Tryz.prog W 0 (fun _=>true) true Tryz.f14.params.toList args.toList ds p:=hA0;have hsz:(DataW.weightsEach Tryz.prog (Tryz.f14.params.toList++[]) (ds++gs)).all (· ≤reachBytes)=true:=hsz0;rw[Tryz.params14] at hsz;rw[Tryz.params14] at hA hval;obtain⟨v0,vs0,d0,ds0,p0,q0,hargs,rfl,rfl,h0,r0⟩:=trodAll_cons hA;obtain⟨v1,vs1,d1,ds1,p1,q1,rfl,rfl,rfl,h1,r1⟩:=trodAll_cons r0;obtain⟨v2,vs2,d2,ds2,p2,q2,rfl,rfl,rfl,h2,r2⟩:=trodAll_cons r1;obtain⟨rfl,rfl,rfl⟩:=trodAll_nil r2;obtain rfl:args=#[v0,v1,v2]:=by cases args;simp_all
 obtain⟨rfl,rfl⟩:=trodVars_none hV;have hsm:=Qyc hsz;have k0:=h0;have lt0:∀x∈p0,x.block<W.heap.size:=by obtain⟨m,hm⟩:=k0;exact DataW.trod_lt m _ _ _ hm
 obtain⟨cs0,x0,rfl,f0⟩:=Vju (hval 0 27 v0 rfl rfl) (hsm 0 _ _ rfl rfl) h0;have k1:=h1;have lt1:∀x∈p1,x.block<W.heap.size:=by obtain⟨m,hm⟩:=k1;exact DataW.trod_lt m _ _ _ hm
 obtain⟨x1,rfl,f1⟩:=Vbq (hval 1 3 v1 rfl rfl) h1;have k2:=h2;have lt2:∀x∈p2,x.block<W.heap.size:=by obtain⟨m,hm⟩:=k2;exact DataW.trod_lt m _ _ _ hm
 obtain⟨x2,rfl,f2⟩:=Vbq (hval 2 3 v2 rfl rfl) h2;clear hA0 hval0;refine(Vgg f0 f1 f2).mono fun e W' ⟨he,hx⟩=> ?_
 subst he;have bel:=hx.below;exact⟨_,rfl,_,_,_,[],_,[],hW',trodAll_mk1 (shut_bool Tryz.underlying4 _),(trodAll_cons_mk (Below.trod laidOut kR (of_decide_eq_true kR) k0 bel lt0) (trodAll_cons_mk (Below.trod laidOut kR (of_decide_eq_true kR) k1 bel lt1) (trodAll_cons_mk (Below.trod laidOut kR (of_decide_eq_true kR) k2 bel lt2) trodAll_mk0))),rfl,bel.frame _,fun h=>by cases h⟩
set_option maxRecDepth 100000
theorem c0:(Rows.worldLostRow.wf (OpenSpec.ofChange Rows.worldLostSpec))=true:=kR
theorem c1:(laidOutB Tryz.pinned.checked.prog)=true:=kR
theorem c2:(mapsRowed Tryz.pinned.checked.prog)=true:=kR
theorem c3:(Tryz.f14.params.all (Tryz.pinned.checked.prog.readableRec ·))=true:=kR
theorem c4:(namedTie Tryz.pinned.checked.prog Rows.worldLostRow.named Rows.worldLostSpec.vars)=true:=kR
theorem c5:((Rows.worldLostRow.stops==[]))=true:=kR
theorem c6:((Tryz.pinned.checked.prog.stops==[]))=true:=kR
theorem c7:((Rows.worldLostRow.knobs==[]))=true:=kR
theorem c8:((Tryz.pinned.checked.prog.stopKnobs==[]))=true:=kR
theorem c9:((Rows.worldLostRow.inPlace==Tryz.pinned.checked.prog.inPlace 14))=true:=kR
theorem c10:((Rows.worldLostRow.unfollowed==Tryz.pinned.checked.prog.unfollowed 14))=true:=kR
theorem c11:((Rows.worldLostRow.recurses==Tryz.pinned.checked.prog.recurses 14))=true:=kR
theorem c12:((Rows.worldLostRow.named==Tryz.pinned.checked.prog.varsNamed 14))=true:=kR
theorem c13:((Rows.worldLostRow.maps==(Tryz.f14.params.toList++Rows.worldLostSpec.plain.varTypes Tryz.pinned.checked.prog).any (Tryz.pinned.checked.prog.mapsRec ·)))=true:=kR
theorem c14:((Rows.worldLostRow.ifaces==(Tryz.f14.params.toList++Rows.worldLostSpec.plain.varTypes Tryz.pinned.checked.prog).any (Tryz.pinned.checked.prog.ifacesRec ·)))=true:=kR
theorem c15:((Rows.worldLostRow.mapsOut==Tryz.pinned.checked.prog.mapsAmong Tryz.f14.resultTypes.toList))=true:=kR
theorem c16:((Rows.worldLostRow.loops==(Tryz.f14.params.toList++Rows.worldLostSpec.plain.varTypes Tryz.pinned.checked.prog).any (Tryz.pinned.checked.prog.loopsFrom ·)))=true:=kR
theorem c17:((Rows.worldLostRow.wideKeys==(Tryz.f14.params.toList++Rows.worldLostSpec.plain.varTypes Tryz.pinned.checked.prog++Tryz.f14.resultTypes.toList).any (Tryz.pinned.checked.prog.wideKeysFrom ·)))=true:=kR
theorem c18:(Rows.worldLostSpec.vars.all (Tryz.pinned.checked.prog.varReadable ·))=true:=kR
theorem c19:(Tryz.f14.resultTypes.all (fun t=>Tryz.pinned.checked.prog.readableRec t && decide (t<Tryz.pinned.checked.prog.types.size)))=true:=kR
theorem c20:((Rows.worldLostRow.ifacesOut==Tryz.f14.resultTypes.toList.any (Tryz.pinned.checked.prog.ifacesRec ·)))=true:=kR
theorem c21:((Rows.worldLostRow.loopsOut==Tryz.f14.resultTypes.toList.any (Tryz.pinned.checked.prog.loopsFrom ·)))=true:=kR
theorem c22:((Rows.worldLostRow.plainKeys==Tryz.pinned.checked.prog.plainKeys))=true:=kR
theorem c23:(Rows.worldLostRow.shortTexts.isNone)=true:=kR
theorem c24:(Tryz.pinned.checked.prog.stopsHeard)=true:=kR
theorem c25:(Tryz.pinned.checked.prog.mayEnter)=true:=kR
theorem c26:((Rows.worldLostRow.lifted==Tryz.pinned.checked.prog.liftsFinal))=true:=kR
theorem c27:((Tryz.pinned.checked.prog.make==some Rows.worldLostRow.make))=true:=kR
theorem c28:((Rows.worldLostRow.kinds==(if Rows.worldLostRow.domain.isEmpty then [] else Tryz.f14.params.toList.map fun t=>match Tryz.pinned.checked.prog.underlying t with|some (.int k)=>some k|_=>none)))=true:=kR
theorem c29:((Rows.worldLostRow.pinned==Rows.worldLostRow.pinnedBy))=true:=kR
theorem c30:((Rows.worldLostRow.veiled==(Tryz.f14.params.toList++Rows.worldLostSpec.plain.varTypes Tryz.pinned.checked.prog++Tryz.f14.resultTypes.toList).any (Tryz.pinned.checked.prog.veiledRec ·)))=true:=kR
theorem c31:(Rows.worldLostRow.veiledFits Tryz.pinned.checked.prog Tryz.f14.params.toList (Tryz.f14.params.toList++Rows.worldLostSpec.plain.varTypes Tryz.pinned.checked.prog++Tryz.f14.resultTypes.toList))=true:=kR
theorem closed:joinedFacts Tryz.pinned.checked.prog 14 Tryz.f14 Rows.worldLostSpec Rows.worldLostRow=true:=by
 unfold joinedFacts;simp only[Bool.and_eq_true];exact⟨⟨⟨⟨⟨⟨⟨⟨⟨⟨⟨⟨⟨⟨⟨⟨⟨⟨⟨⟨⟨⟨⟨⟨⟨⟨⟨⟨⟨⟨⟨c0,c1⟩,c2⟩,c3⟩,c4⟩,c5⟩,c6⟩,c7⟩,c8⟩,c9⟩,c10⟩,c11⟩,c12⟩,c13⟩,c14⟩,c15⟩,c16⟩,c17⟩,c18⟩,c19⟩,c20⟩,c21⟩,c22⟩,c23⟩,c24⟩,c25⟩,c26⟩,c27⟩,c28⟩,c29⟩,c30⟩,c31⟩
theorem over:Rows.worldLostRow.holds Tryz.pinned (OpenSpec.ofChange Rows.worldLostSpec):=
 OpenClaim.holds_of_wide 14 Tryz.f14 rfl rfl rfl rfl rfl rfl rfl ⟨rfl,rfl,rfl,rfl,rfl⟩ rfl rfl rfl rfl rfl kR Tryz.func14 closed
  (of_decide_eq_true kR) (by unfold Func.isWrapper;rw[if_neg (of_decide_eq_false kR)];exact⟨rfl,rfl⟩)
  (fun os started H enc _=>lifted os started H enc)
end WorldLostLaw
theorem worldLost_holds:Rows.WorldLostSaid:=WorldLostLaw.over
end Go.Proofs.YtgnccjojfebkeaaGreat
